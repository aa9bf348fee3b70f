/-
  Lemmas for NeighbourKeeps.
-/
import Derived.Test.YtdobfmlmenaajaaGreatDoorL20
import Derived.Test.YtdobfmlmenaajaaGreatDoorL14
namespace Go.Proofs.YtdobfmlmenaajaaGreatDoor
open Go.RowKit Tryz
open _root_.Classical renaming byContradiction→cU,em→eP
open _root_.Int renaming tmod_eq_emod_of_nonneg→aN,emod_lt_of_pos→aU,emod_nonneg→a9,mul_le_mul_of_nonneg_right→bE,mul_comm→bZ,one_mul→cF,mul_nonneg→dA,tmod→eF,mul_emod→ft,mul_one→ie,tdiv→iQ,mul_sub→rm
open _root_.List renaming not_mem_nil→aG,forall_mem_cons→aO,getD_cons_succ→bF,getD_cons_zero→bG
open _root_.Nat renaming add_one_le_iff→aa,le_refl→af,lt_or_ge→az,zero_add→aJ,eq_zero_or_pos→bC,le_trans→bI,mul_le_mul→bK,add_mul→dO,one_mul→jR
open _root_.Ne renaming symm→ai
open _root_.Option renaming none→ae
open _root_.Or renaming inr→aK,inl→bn
set_option maxHeartbeats 6400000
set_option maxRecDepth 4096
set_option linter.all false
attribute [local go_sem] Nat.reduceAdd Nat.reduceEqDiff Nat.reduceLeDiff Nat.reduceLT reduceCtorEq Int.ofNat_lt decide_true decide_false Int.zero_le_ofNat
attribute [local go_sem ↓] reduceIte
variable{x x':AV}{K:AV->St->Prop}{B D a:Int}{args l l':List AV}{b c e es f i j k m n o p:Nat}{v:Nat->Int}{g w:Nat->Nat}{E E':Nat->Nat->AV}{A:Nat->Nat->Int}{V:Nat->Nat->Nat}{S S1:St}{H:aB}
theorem mE(e:2<=p)(f:p<25)(a:¬p%2=0∨p<4)(b:¬p%3=0∨p<9)(c:¬p%4=0∨p<16):E4 p:=by
 refine⟨e,fun d g i=>?_⟩;have:d<5:=by
  rcases az d 5 with h|h
  ·exact h
  ·have:5*5<=d*d:=bK h h;omega
 have:d=2∨d=3∨d=4:=om
 rcases this with rfl|rfl|rfl<;>omega
def j9(D:Int)(p:Nat):Prop:=3<=p/\p%2=1/\E4 p/\¬D%p=0
open Classical in
noncomputable def gc(D:Int):Nat->Nat
 | 0=>0
 | p+1=>gc D p+if j9 D p then 1 else 0
open Classical in
theorem zL(D:Int)(q:Nat)(f:Nat)(h:E4 q/\3<=q/\q%2=1){k:Nat}(c:k<=gc D q)(a:f=if D%q=0 then 0 else 1):k+f<=gc D (q+1):=by
 simp only[gc,j9,a];by_cases b:D%(q:Int)=0<;>simp[b,h.1,h.2.1,h.2.2]<;>omega
theorem sH(D:Int){p q:Nat}(h:p<=q){k:Nat}(a:k<=gc D p):k<=gc D q:=by
 induction q with
 | zero=>rw[show(0:Nat)=p by omega];exact a
 | succ q ih =>
  by_cases e:p=q+1
  ·rw[<-e];exact a
  ·exact bI (ih om) (by simp only[gc];omega)
theorem Ns(p:0<D)(q:D<=10000)(a b c d e:Nat)(f:Nat.Coprime a b)(g:Nat.Coprime (a*b) c)(i:Nat.Coprime (a*b*c) d)(j:Nat.Coprime (a*b*c*d) e)(r:10000<a*b*c*d*e) :
  ¬(D%(a:Int)=0/\D%(b:Int)=0/\D%(c:Int)=0/\D%(d:Int)=0/\D%(e:Int)=0):=by
 rintro⟨k,l,m,n,o⟩;have t:∀{x:Nat},D%(x:Int)=0->x∣D.natAbs:=fun h=>Int.ofNat_dvd_left.1 (Int.dvd_of_emod_eq_zero h);have s:=Nat.le_of_dvd om (j.mul_dvd_of_dvd_of_dvd (i.mul_dvd_of_dvd_of_dvd (g.mul_dvd_of_dvd_of_dvd (f.mul_dvd_of_dvd_of_dvd (t k) (t l)) (t m)) (t n)) (t o));omega
open Classical in
theorem JL{a b c d e f:Prop}(m:¬(a/\b/\c/\d/\e))(n:¬(a/\b/\c/\d/\f))(o:¬(a/\b/\c/\e/\f))(p:¬(a/\b/\d/\e/\f))(q:¬(a/\c/\d/\e/\f))(r:¬(b/\c/\d/\e/\f)){g h i j k l:Nat}
  (s:a∨1<=g) (t:b∨1<=h) (u:c∨1<=i) (v:d∨1<=j) (w:e∨1<=k) (x:f∨1<=l):2<=0+g+h+i+j+k+l:=by
 by_cases a<;>by_cases b<;>by_cases c<;>by_cases d<;>by_cases e<;>by_cases f<;>simp_all<;>omega
theorem Mu(a:0<D)(b:D<=10000):2<=gc D 18:=by
 have j:E4 3:=mE om om om om om;have k:E4 5:=mE om om om om om;have l:E4 7:=mE om om om om om;have c:E4 11:=mE om om om om om;have d:E4 13:=mE om om om om om;have e:E4 17:=mE om om om om om;have m:=zL D 3 _ ⟨j,om,om⟩ (Nat.zero_le _) rfl
 have n:=zL D 5 _ ⟨k,om,om⟩ (sH D (om:3+1<=5) m) rfl
 have o:=zL D 7 _ ⟨l,om,om⟩ (sH D (om:5+1<=7) n) rfl
 have f:=zL D 11 _ ⟨c,om,om⟩ (sH D (om:7+1<=11) o) rfl
 have g:=zL D 13 _ ⟨d,om,om⟩ (sH D (om:11+1<=13) f) rfl
 have i:=zL D 17 _ ⟨e,om,om⟩ (sH D (om:13+1<=17) g) rfl
 refine bI ?_ i;have t:∀q:Nat,D%(q:Int)=0∨1<=(if D%(q:Int)=0 then 0 else 1:Nat):=fun q=>by
  by_cases h:D%(q:Int)=0
  ·exact bn h
  ·right;simp[h]
 exact JL (Ns a b 3 5 7 11 13 dc dc dc dc dc) (Ns a b 3 5 7 11 17 dc dc dc dc dc)
  (Ns a b 3 5 7 13 17 dc dc dc dc dc) (Ns a b 3 5 11 13 17 dc dc dc dc dc)
  (Ns a b 3 7 11 13 17 dc dc dc dc dc) (Ns a b 5 7 11 13 17 dc dc dc dc dc)
  (t 3) (t 5) (t 7) (t 11) (t 13) (t 17)
theorem Fs(a:p%2=1):gc D (p+2)=gc D (p+1):=by
 have:¬j9 D (p+1):=fun h=>by have:=h.2.1;omega
 simp[gc,this]
theorem gH.ent(h:gH n H):EG n H:=fun i j a b=>by
 have:=h.red.entry h.five a b;omega
theorem gH.det(h:gH n H):0<det n H/\det n H<=10000:=⟨h.red.pd.2 n (af _),h.small⟩
def gpI(D:Int)(p s:Nat):Prop:=3<=p/\p<=17/\p%2=1/\gc D p+s<=1
theorem yr(S:St)(n:Nat)(H:aB)(k:Nat)(b:gH n H)(v:k<256):cL 39 [ax n n H,.int .u8 k] S (fun r S'=>∃p:Nat,j9 (det n H) p/\p<=17/\r=.int .i64 p/\S'=S):=by
 refine ak func39 rfl 20 ntmps39 kr sm (by simp[results39]) ?_
 rw[aF,results39];have m:=b.five;have o:eF (k:Int) 2=((k%2:Nat):Int):=by rw[Int.ofNat_tmod]<;>rfl
 have q:IntKind.i64.wrap ((k%2:Nat):Int)=((k%2:Nat):Int):=i64_in om om;simp -dsimp only[go_sem,o,q,show ¬((2:Int)=0) by decide]
 have w:=Mu b.det.1 b.det.2;refine aI (fun O S'=>∃p s:Nat,gpI (det n H) p s/\O 0=ax n n H/\O 5=.int .i64 s/\O 6=.int .i64 p/\S'=S) (fun O S=>18-bT (O 6)) ?_ ?_
 ·simp -dsimp only[go_sem];refine⟨3,k%2,⟨om,om,om,?_⟩,rfl,rfl⟩
  have:gc (det n H) 3=0:=by simp[gc,j9]
  omega
 ·rintro O S' ⟨p,s,⟨c,f,d,t⟩,g,l,i,rfl⟩;have wp:IntKind.i64.wrap ((p:Int)+2)=((p+2:Nat):Int):=dV om om;rcases eP (j9 (det n H) p)with e|e
  ·simp -dsimp only[go_sem,aa,g,i];refine(FF n p H b.one om b.ent b.det c om true (by simp only[true_iff];exact e.2.2)).call ?_
   have a:gc (det n H) (p+1)=gc (det n H) p+1:=by simp[gc,e]
   by_cases u:s=0
   ·subst u;simp -dsimp only[go_sem,g,l,i,show((((0:Nat)):Int)==0)=true from rfl];exact⟨p,e,f,rfl⟩
   ·obtain rfl:s=1:=om
    have j:p+2<=17:=by
     rcases az p 16 with h|h
     ·omega
     ·obtain rfl:p=17:=om
      rw[show(17:Nat)+1=18 from rfl]at a;omega
    simp -dsimp only[go_sem,g,l,i,show((((1:Nat)):Int)==0)=false from rfl,wp,show IntKind.i64.wrap ((((1:Nat)):Int)-1)=((0:Nat):Int)from dV om om,bT];exact⟨⟨p+2,0,⟨om,om,om,by rw[Fs d,a];omega⟩,rfl,rfl⟩,om⟩
  ·simp -dsimp only[go_sem,aa,g,i];refine(FF n p H b.one om b.ent b.det c om false (by simp only[Bool.false_eq_true,false_iff];exact fun h=>e ⟨c,d,h.1,h.2⟩)).call ?_
   have a:gc (det n H) (p+1)=gc (det n H) p:=by simp[gc,e]
   have j:p+2<=17:=by
    rcases az p 16 with h|h
    ·omega
    ·obtain rfl:p=17:=om
     rw[show(17:Nat)+1=18 from rfl]at a;omega
   simp -dsimp only[go_sem,g,l,i,wp,bT];exact⟨⟨p+2,s,⟨om,om,om,by rw[Fs d,a];omega⟩,rfl,rfl⟩,om⟩

def nE(p:Nat)(v:Nat->Nat):Nat->Nat
 | 0=>0
 | k+1=>nE p v k*p+v k
theorem Al{v:Nat->Nat}(h:∀i,i<k->v i<p):nE p v k<p^k:=by
 induction k with
 | zero=>simp[nE]
 | succ k ih =>
  have a:=ih (fun i c=>h i om);have d:=h k om;simp only[nE];have b:(nE p v k+1)*p<=p^k*p:=bK a (af _);rw[dO,jR]at b;rw[Nat.pow_succ];omega
theorem wu{v:Nat->Nat}(h:∀i,i<k->v i=w i):nE p v k=nE p w k:=by
 induction k with
 | zero=>rfl
 | succ k ih=>simp only[nE];rw[ih (fun i a=>h i om),h k om]
theorem tI{p:Nat}{v w:Nat->Nat}{i:Nat}(a:∀k,k<i->w k=v k)(b:w i=v i+1):∀n,(∀k,i<k->k<i+1+n->w k=0/\v k<p)->nE p v (i+1+n)<nE p w (i+1+n)
 | 0,_=>by
  simp only[nE];rw[wu (p:=p) a,b];omega
 | n+1,h=>by
  have ih:=tI a b n (fun k c d=>h k c om);have e:=h (i+1+n) om om;rw[<-Nat.add_assoc];simp only[nE,e.1,Nat.add_zero];have f:(nE p v (i+1+n)+1)*p<=nE p w (i+1+n)*p:=bK ih (af _);rw[dO,jR]at f;omega
structure kU(n p:Nat)(H:aB)(v:Nat->Nat):Prop where
 lt:∀i,i<n->v i<p
 lead:iM (fun i=>v i) n=1
 norm:gC n H (fun i=>v i) n%p=0
structure Di(S0 S:St)(n p:Nat)(H:aB)(j:Nat)(x:AV)(c:Nat)(g:Nat->Nat)(V:Nat->Nat->Nat)(w:Nat->Nat):Prop where
 list:cC 29 1 S0 S x j (fun i=>.sl 1 (g i) 0 n)
 rows:∀i,i<j->aR S (g i) 2 1 n (fun k=>.int .i64 (V i k))/\S0 (g i)=ae/\g i≠c
 good:∀i,i<j->kU n p H (V i)
 now:aR S c 2 1 n (fun k=>.int .i64 (w k))
 new:S0 c=ae
theorem Di.set{S0:St}(h:Di S0 S n p H j x c g V w){g':Nat->AV}(l:S c=some ⟨2,1,n,g'⟩){i z:Nat} :
  Di S0 (S.upd c ⟨2,1,n,aL g' i (.int .i64 z)⟩) n p H j x c g V (fun k=>if k=i then z else w k):=by
 refine⟨h.list.upd h.new (fun d o e=>h.list.other l om (e▸o)) _,fun a q=>?_,h.good,?_,h.new⟩
 ·obtain⟨b,f,m⟩:=h.rows a q;exact⟨b.upd m _,f,m⟩
 ·refine aR.here fun k r=>?_;obtain⟨s,b,f⟩:=h.now;rw[l]at b;cases b;simp only[aL];split
  ·rfl
  ·exact f k r
def digI(n p k:Nat)(v w:Nat->Nat):Prop:=k<=n/\(∀i,i<n->v i<p)/\(∀i,i<k->w i=v i)/\∀i,k<=i->i<n->w i=0
def allH(n p j:Nat)(v:Nat->Nat):Prop:=(∀i,i<n->v i<p)/\j<=nE p v n
noncomputable def Mm(n p:Nat)(S:St)(x:AV):Nat:=match x with
 | .sl _ c _ _=>(match S c with
  | some X=>p^n-nE p (fun i=>bT (X.g i)) n
  | ae=>0)
 | _=>0
theorem vP(h:aR S c 2 1 n (fun k=>.int .i64 (w k))):Mm n p S (.sl 1 c 0 n)=p^n-nE p w n:=by
 obtain⟨g,a,b⟩:=h;simp only[Mm,a];rw[wu (w:=w) fun i d=>by rw[b i d];simp[bT]]
def AllR(S0 S:St)(n p:Nat)(H:aB)(r:AV):Prop:=∃j c g V w,j<=65536/\Di S0 S n p H j r c g V w
def Gl(x:AV):Nat:=match x with
 | .int _ z=>(z+1).toNat
 | _=>0
theorem zU(h:aR S c 2 1 n (fun k=>.int .i64 (w k)))(d:0<n)(p:n<=1000)
  (e:∀b h',S b=ae->(∀k,k<n->h' k=.int .i64 (w k))->K (.sl 1 b 0 n) (S.upd b ⟨2,1,n,h'⟩)):fZ 29 29 .nil (.sl 1 c 0 n) S K:=by
 obtain⟨g,f,a⟩:=h;have i:zN S (.sl 1 c 0 n)=some (1,n,fun j=>g (0+j),some c):=by simp[zN,f]
 unfold fZ;rw[show dw 29=some 2 from rfl,i];refine⟨rfl,rfl,rfl,d,fun j l=>?_,om,fun b m=>e b _ m fun k o=>?_⟩
 ·show dN 1 (g (0+j));rw[aJ,a j l];simp[dN]
 ·show g (0+k)=_;rw[aJ,a k o]
theorem Jl(S0:St)(n p:Nat)(H:aB)(h1:1<=n)(h2:n<=8)(hp:2<=p)(hp2:p<=900)(hpn:p^n<=65536) :
  cL 92 [ax n n H,.int .i64 p] S0 (fun r S'=>AllR S0 S' n p H r):=by
 refine ak func92 rfl 48 ntmps92 kr sm (by simp[results92]) ?_
 rw[aF,results92];simp -dsimp only[go_sem,ax]
 repeat refine an ?_
 refine au.intro fun W P=>?_;simp -dsimp only[go_sem];refine aI (fun O S=>∃j x c g V w,Di S0 S n p H j x c g V w/\allH n p j w/\O 0=ax n n H/\O 1=.int .i64 p/\O 5=x/\O 6=.sl 1 c 0 n) (fun O S=>Mm n p S (O 6)) ?_ ?_
 ·simp -dsimp only[go_sem,ax];refine⟨0,_,W,fun _=>0,fun _ _=>0,fun _=>0,⟨cC.nil ((cY.refl S0).upd P _) _,fun i m=>om,fun i m=>om,aR.here fun i m=>rfl,P⟩,⟨fun i m=>by show 0<p;omega,om⟩,rfl,rfl⟩
 ·rintro O S ⟨j,x,c,g,V,w,t,⟨B,hj⟩,y,A,u,q⟩;have hvl:=Al (p:=p) B;simp -dsimp only[go_sem,aa,y,A,q,ax];have hI:l8 S c n (fun k=>w k):=t.now;refine(yE n p H (fun k=>w k) h2 om om (fun i m=>by have:=B i m;omega)).spec (dT.same (dT.same (dT.i64s hI dT.nil))) ?_
  rcases eP (kU n p H w)with Q|Q
  ·have o:(iM (fun k=>(w k:Int)) n==1&&gC n H (fun k=>(w k:Int)) n%(p:Int)==0)=true:=by simp only[Q.lead,Q.norm];rfl
   simp -dsimp only[go_sem,y,A,u,q,ax,o];refine zU t.now om om ?_;intro d h' R hh;simp -dsimp only[go_sem,u,q];refine au.intro fun b18 C=>?_;have n18d:=(ag C).1;have X:c≠d:=t.now.fresh R;simp -dsimp only[go_sem,u,q];have D:=(t.list.upd (t.list.1.none R) (t.list.fresh R) ⟨2,1,n,h'⟩);have K:=D.fresh C;refine cC.app29 (D.upd (D.1.none C) K _) om (show dN 1 (.sl 1 d 0 n) by simp[dN]) (aK ⟨_,_,_,rfl,bR,rfl,fun h=>K _ h rfl⟩) ?_
   intro c' S' Y Z hk3;have L:Di S0 S' n p H (j+1) (.sl 1 c' 0 (j+1)) c (fun i=>if i=j then d else g i) (fun i=>if i=j then w else V i) w:=by
    have M:=D.upd (D.1.none C) K ⟨29,1,1,fun j=>[AV.sl 1 d 0 n].getD j AV.any⟩;have keep1:∀{b:Nat} {gg:Nat->AV},aR (S.upd d ⟨2,1,n,h'⟩) b 2 1 n gg->aR S' b 2 1 n gg:=fun {b gg} o=>by
     obtain⟨gb,U,q2⟩:=o.upd (o.fresh C) ⟨29,1,1,fun j=>[AV.sl 1 d 0 n].getD j AV.any⟩;exact⟨gb,Z b _ U (M.other U om),q2⟩
    have keep:∀{b:Nat} {gg:Nat->AV},aR S b 2 1 n gg->aR S' b 2 1 n gg:=fun {b gg} o=>keep1 (o.upd (o.fresh R) _);refine⟨Y.congr fun i m=>?_,fun i m=>?_,fun i m=>?_,keep t.now,t.new⟩
    ·show(if i=j then AV.sl 1 d 0 n else AV.sl 1 (g i) 0 n)=AV.sl 1 (if i=j then d else g i) 0 n
     split<;>rfl
    ·by_cases e:i=j
     ·simp only[e,if_true];exact⟨keep1 (aR.here hh),t.list.1.none R,ai X⟩
     ·simp only[e,if_false];obtain⟨U,q2,q3⟩:=t.rows i om;exact⟨keep U,q2,q3⟩
    ·by_cases e:i=j
     ·simp only[e,if_true];exact Q
     ·simp only[e,if_false];exact t.good i om
   generalize (fun i=>if i=j then d else g i)=g2 at L
   generalize (fun i=>if i=j then w else V i)=V2 at L
   have wn:IntKind.i64.wrap ((n:Int)-1)=(n:Int)-1:=i64_in om om;simp -dsimp only[go_sem,u,q,wn];refine aI (fun O S=>∃k w',Di S0 S n p H (j+1) (.sl 1 c' 0 (j+1)) c g2 V2 w'/\digI n p k w w'/\O 0=ax n n H/\O 1=.int .i64 p/\O 5=(.sl 1 c' 0 (j+1))/\O 6=.sl 1 c 0 n/\O 7=.int .i64 ((k:Int)-1)) (fun O S=>Gl (O 7)) ?_ ?_
   ·simp -dsimp only[go_sem,y,A,q,ax];exact⟨n,w,L,⟨af _,B,fun _ _=>rfl,fun i a b=>om⟩,rfl⟩
   ·rintro O S2 ⟨k,w',f,⟨hk,hv,l,s⟩,y,A,u,q,G⟩;rcases bC k with rfl|hk0
    ·simp -dsimp only[go_sem,aa,y,A,u,q,ax,G,show((((0:Nat):Int)-1)<0) by decide,show ¬((0:Int)<=(((0:Nat):Int)-1)) by decide]
     exact⟨(j+1),c,_,_,_,om,f⟩
    ·obtain⟨i,rfl⟩:∃i,k=i+1:=⟨k-1,om⟩
     rw[show(((i+1:Nat):Int)-1)=(i:Int) by omega]at G
     have m:i<n:=om
     obtain⟨g',I,u2⟩:=f.now;have T:g' i=.int .i64 (w i):=by rw[u2 i m];show AV.int .i64 (w' i:Nat)=_;rw[l i om]
     have wp:IntKind.i64.wrap ((p:Int)-1)=((p-1:Nat):Int):=dV om om;have hwi:=B i m;by_cases he:w i=p-1
     ·have o:(((w i:Nat):Int)==((p-1:Nat):Int))=true:=by simp[he]
      have wi:IntKind.i64.wrap ((i:Int)-1)=(i:Int)-1:=i64_in om om;simp -dsimp only[go_sem,aa,y,A,u,q,ax,G,m,I,T,wp,o,wi,Gl];refine⟨⟨i,_,f.set I (i:=i) (z:=0),⟨om,hv,fun a J=>?_,fun a J N=>?_⟩,rfl⟩,om⟩
      ·show(if a=i then 0 else w' a)=w a
       rw[if_neg om,l a om]
      ·show(if a=i then 0 else w' a)=0
       split
       ·rfl
       ·exact s a om N
     ·have o:(((w i:Nat):Int)==((p-1:Nat):Int))=false:=by simp;omega
      have wi:IntKind.i64.wrap ((w i:Int)+1)=((w i+1:Nat):Int):=dV om om;have E:=f.set I (i:=i) (z:=w i+1);have hlt:nE p w n<nE p (fun k=>if k=i then w i+1 else w' k) n:=by
       have:=tI (p:=p) (v:=w) (w:=fun k=>if k=i then w i+1 else w' k) (i:=i) (fun k hk=>by show(if k=i then w i+1 else w' k)=w k;rw[if_neg om,l k om]) sm (n-(i+1)) (fun k h3 h4=>⟨by show(if k=i then w i+1 else w' k)=0;rw[if_neg om,s k om om],B k om⟩)
       rwa [(om:i+1+(n-(i+1))=n)]at this
      have F:∀a,a<n->(fun k=>if k=i then w i+1 else w' k) a<p:=fun a J=>by
       show(if a=i then w i+1 else w' a)<p
       split
       ·omega
       ·rcases az a (i+1)with h|h
        ·rw[l a h];exact B a J
        ·rw[s a h J];omega
      have M:=Al (p:=p) F;have m1:=vP (p:=p) t.now;have m2:=vP (p:=p) E.now;simp -dsimp only[go_sem,aa,y,A,u,q,ax,G,m,I,T,wp,o,wi,(om:¬((i:Int)<0))]
      refine⟨⟨(j+1),_,c,_,_,_,E,⟨F,om⟩,sm⟩,?_⟩
      rw[m1,m2];omega
  ·have o:(iM (fun k=>(w k:Int)) n==1&&gC n H (fun k=>(w k:Int)) n%(p:Int)==0)=false:=by
    simp only[Bool.and_eq_false_iff,beq_eq_false_iff_ne];exact cU fun h=>Q ⟨B,cU fun h5=>h (bn h5),cU fun h5=>h (aK h5)⟩
   simp -dsimp only[go_sem,y,A,u,q,ax,o];have wn:IntKind.i64.wrap ((n:Int)-1)=(n:Int)-1:=i64_in om om;simp -dsimp only[go_sem,wn];refine aI (fun O S=>∃k w',Di S0 S n p H j x c g V w'/\digI n p k w w'/\O 0=ax n n H/\O 1=.int .i64 p/\O 5=x/\O 6=.sl 1 c 0 n/\O 7=.int .i64 ((k:Int)-1)) (fun O S=>Gl (O 7)) ?_ ?_
   ·simp -dsimp only[go_sem,y,A,u,q,ax];exact⟨n,w,t,⟨af _,B,fun _ _=>rfl,fun i a b=>om⟩,rfl⟩
   ·rintro O S2 ⟨k,w',f,⟨hk,hv,l,s⟩,y,A,u,q,G⟩;rcases bC k with rfl|hk0
    ·simp -dsimp only[go_sem,aa,y,A,u,q,ax,G,show((((0:Nat):Int)-1)<0) by decide,show ¬((0:Int)<=(((0:Nat):Int)-1)) by decide]
     exact⟨j,c,_,_,_,om,f⟩
    ·obtain⟨i,rfl⟩:∃i,k=i+1:=⟨k-1,om⟩
     rw[show(((i+1:Nat):Int)-1)=(i:Int) by omega]at G
     have m:i<n:=om
     obtain⟨g',I,u2⟩:=f.now;have T:g' i=.int .i64 (w i):=by rw[u2 i m];show AV.int .i64 (w' i:Nat)=_;rw[l i om]
     have wp:IntKind.i64.wrap ((p:Int)-1)=((p-1:Nat):Int):=dV om om;have hwi:=B i m;by_cases he:w i=p-1
     ·have o:(((w i:Nat):Int)==((p-1:Nat):Int))=true:=by simp[he]
      have wi:IntKind.i64.wrap ((i:Int)-1)=(i:Int)-1:=i64_in om om;simp -dsimp only[go_sem,aa,y,A,u,q,ax,G,m,I,T,wp,o,wi,Gl];refine⟨⟨i,_,f.set I (i:=i) (z:=0),⟨om,hv,fun a J=>?_,fun a J N=>?_⟩,rfl⟩,om⟩
      ·show(if a=i then 0 else w' a)=w a
       rw[if_neg om,l a om]
      ·show(if a=i then 0 else w' a)=0
       split
       ·rfl
       ·exact s a om N
     ·have o:(((w i:Nat):Int)==((p-1:Nat):Int))=false:=by simp;omega
      have wi:IntKind.i64.wrap ((w i:Int)+1)=((w i+1:Nat):Int):=dV om om;have E:=f.set I (i:=i) (z:=w i+1);have hlt:nE p w n<nE p (fun k=>if k=i then w i+1 else w' k) n:=by
       have:=tI (p:=p) (v:=w) (w:=fun k=>if k=i then w i+1 else w' k) (i:=i) (fun k hk=>by show(if k=i then w i+1 else w' k)=w k;rw[if_neg om,l k om]) sm (n-(i+1)) (fun k h3 h4=>⟨by show(if k=i then w i+1 else w' k)=0;rw[if_neg om,s k om om],B k om⟩)
       rwa [(om:i+1+(n-(i+1))=n)]at this
      have F:∀a,a<n->(fun k=>if k=i then w i+1 else w' k) a<p:=fun a J=>by
       show(if a=i then w i+1 else w' a)<p
       split
       ·omega
       ·rcases az a (i+1)with h|h
        ·rw[l a h];exact B a J
        ·rw[s a h J];omega
      have M:=Al (p:=p) F;have m1:=vP (p:=p) t.now;have m2:=vP (p:=p) E.now;simp -dsimp only[go_sem,aa,y,A,u,q,ax,G,m,I,T,wp,o,wi,(om:¬((i:Int)<0))]
      refine⟨⟨j,_,c,_,_,_,E,⟨F,om⟩,sm⟩,?_⟩
      rw[m1,m2];omega

def LineR(S0 S:St)(n p:Nat)(H:aB)(r:AV):Prop:=cY S0 S/\(r=.tup [.nil,.bool false]∨∃d v,r=.tup [.sl 1 d 0 n,.bool true]/\aR S d 2 1 n (fun k=>.int .i64 ((v k:Nat):Int))/\S0 d=ae/\kU n p H v)
theorem GP(S0:St)(n p t:Nat)(H:aB)(l:1<=n)(i:n<=8)(m:2<=p)(f:p<=900)(y:t<65536):cL 40 [ax n n H,.int .i64 p,.int .u16 t] S0 (fun r S'=>LineR S0 S' n p H r):=by
 refine ak func40 rfl 28 ntmps40 kr sm (by simp[results40]) ?_
 rw[aF,results40];simp -dsimp only[go_sem,aa,ax];refine(GM n p i om f).call ?_;by_cases b:p^n<=65536
 ·simp -dsimp only[go_sem,aa,b];refine(Jl S0 n p H l i m f b).mono ?_;rintro r S' ⟨j,c,g,V,w,z,e⟩;rcases e.list.2 with⟨rfl,rfl⟩|⟨d,o,rfl,g',k,q⟩
  ·simp -dsimp only[go_sem,show((0:Int)==0)=true from rfl];exact⟨e.list.1,bn rfl⟩
  ·by_cases h:j=0
   ·subst h;simp -dsimp only[go_sem,aa,k,show((((0:Nat):Int))==0)=true from rfl];exact⟨e.list.1,bn rfl⟩
   ·have s:(((j:Nat):Int)==0)=false:=by simp;omega
    have u:IntKind.i64.wrap (t:Int)=t:=i64_in om om;have a:t%j<j:=Nat.mod_lt _ om;simp -dsimp only[go_sem,aa,k,s,u,(om:¬((j:Int)=0)),Ap,a,q _ a]
    obtain⟨v,x,A⟩:=e.rows _ a;exact⟨e.list.1,aK ⟨_,_,rfl,v,x,e.good _ a⟩⟩
 ·simp -dsimp only[go_sem,aa,b];exact⟨cY.refl _,bn rfl⟩
structure VecI(S0 S:St)(c n:Nat)(a:Nat->Int):Prop where
 has:aR S c 2 1 n (fun k=>.int .i64 (a k))
 new:S0 c=ae
 ext:cY S0 S
 rng:∀k,k<n->-128<=a k/\a k<=127
def VecR(S0 S:St)(n:Nat)(r:AV):Prop:=∃c a,r=.sl 1 c 0 n/\VecI S0 S c n a
def VecM(S0 S:St)(bt c n i:Nat):Prop:=(∃a,VecI S0 S c n a)/\iG S bt i/\S0 bt=ae
theorem LT(S0:St)(L n:Nat)(nums:Nat->Int)(D:n<=8)(hnums:∀i,i<L->-128<=nums i/\nums i<=127):cL 34 [.lst 1 L (fun i=>.int .i8 (nums i)),.int .i64 n] S0 (fun r S'=>VecR S0 S' n r):=by
 refine ak func34 rfl 25 ntmps34 kr sm (by simp[results34]) ?_
 rw[aF,results34];simp -dsimp only[go_sem,aO,aG,false_implies,implies_true];refine au.intro fun d o=>?_
 repeat refine an ?_
 refine au.intro fun c e=>?_;have n12_10:=(ag e).1;simp -dsimp only[go_sem,Int.toNat_natCast];refine aI (fun O S=>∃i:Nat,i<=n/\VecM S0 S d c n i/\O 5=.ptr 1 d 0/\O 6=.sl 1 c 0 n/\O 14=.int .i64 n/\O 15=.int .i64 i) (fun O S=>n-bT (O 15)) ?_ ?_
 ·simp -dsimp only[go_sem];refine⟨0,om,⟨⟨fun _=>0,aR.here fun i w=>rfl,(ag e).2,((cY.refl S0).upd o _).upd (ag e).2 _,fun k f=>om⟩,?_,o⟩,rfl⟩
  exact iG.upd ⟨L,nums,0,_,bR,rfl,rfl,af _,hnums⟩ (ai n12_10) _
 ·rintro O S ⟨i,w,⟨⟨a,m⟩,x,p⟩,q,s,h,j⟩;by_cases l:i<n
  ·simp -dsimp only[go_sem,aa,q,s,h,j,l];refine(uf S d i x om).mono ?_;rintro r S' ⟨z,y,rfl,t,f⟩;obtain⟨g,A,B⟩:=m.has;have u:S' c=some ⟨2,1,n,g⟩:=by rw[f c n12_10];exact A
   simp -dsimp only[go_sem,aa,q,s,h,j,l,u,aM (om:i<1000000),bT]
   refine⟨⟨i+1,om,⟨⟨fun k=>if k=i then z else a k,aR.here fun k f=>?_,m.new,?_,fun k f=>?_⟩,t.upd (ai n12_10) _,p⟩,rfl⟩,om⟩
   ·simp only[aL];split
    ·rfl
    ·exact B k f
   ·refine cY.upd (fun b X v=>?_) m.new _;have C:b≠d:=by rintro rfl;rw[p]at v;cases v
    rw[f b C];exact m.ext b X v
   ·show -128<=(if k=i then z else a k)/\(if k=i then z else a k)<=127
    split
    ·exact y
    ·exact m.rng k f
  ·obtain rfl:i=n:=om
   simp -dsimp only[go_sem,aa,q,s,h,j,l];exact⟨c,a,rfl,m⟩
def xQ(d k L:Nat)(nums:Nat->Int)(Lb:Nat)(base:Nat->AV)(q t:Nat):AV:=.agg [.int .u8 d,.int .u8 k,.lst 1 L (fun i=>.int .i8 (nums i)),.lst 1 Lb base,.int .u8 q,.int .u16 t]
def MadeR(S0 S:St)(r:AV):Prop:=cY S0 S/\∃n H p,gH n H/\j9 (det n H) p/\p<=17 /\
 (r=.tup [ax n n H,.int .i64 p,.nil,.bool false]∨∃d v,r=.tup [ax n n H,.int .i64 p,.sl 1 d 0 n,.bool true]/\aR S d 2 1 n (fun k=>.int .i64 ((v k:Nat):Int))/\S0 d=ae/\kU n p H v)
theorem F2(S0:St)(d k L:Nat)(nums:Nat->Int)(Lb:Nat)(base:Nat->AV)(q t:Nat)(s:d<256)(u:k<256)(w:q<256)(x:t<65536)(hnums:∀i,i<L->-128<=nums i/\nums i<=127) :
  cL 13 [xQ d k L nums Lb base q t,.int .i64 5] S0 (fun r S'=>MadeR S0 S' r):=by
 refine ak func13 rfl 32 ntmps13 kr sm (by simp[results13]) ?_
 rw[aF,results13];simp -dsimp only[go_sem,aa,xQ,dD,aO,aG,false_implies,implies_true];refine au.intro fun h l=>?_;simp -dsimp only[go_sem,bG,bF];have y:(S0.upd h ⟨27,1,6,fun j=>[AV.int .u8 d,.int .u8 k,.lst 1 L (fun i=>.int .i8 (nums i)),.lst 1 Lb base,.int .u8 q,.int .u16 t].getD j .any⟩) h=some ⟨27,1,6,fun j=>[AV.int .u8 d,.int .u8 k,.lst 1 L (fun i=>.int .i8 (nums i)),.lst 1 Lb base,.int .u8 q,.int .u16 t].getD j .any⟩:=bR;refine(GT _ d k L nums Lb base s u hnums).mono ?_;rintro r S1 ⟨n,H,b,rfl,a⟩;have e:=a _ _ y;simp -dsimp only[go_sem,aa,dD,bG,bF,e];refine(yr S1 n H q b w).mono ?_;rintro r S1' ⟨p,f,m,rfl,rfl⟩;simp -dsimp only[go_sem,aa,bG,bF,e];refine(GP S1' n p t H b.one (by have:=b.five;omega) (by have:=f.1;omega) om x).mono ?_
 rintro r S2 ⟨g,z⟩;have o:cY S0 S2:=(((cY.refl S0).upd l _).trans a).trans g;rcases z with rfl|⟨c,v,rfl,A,B,C⟩
 ·simp -dsimp only[go_sem,bG,bF];exact⟨o,n,H,p,b,f,m,bn rfl⟩
 ·simp -dsimp only[go_sem,bG,bF];exact⟨o,n,H,p,b,f,m,aK ⟨c,v,rfl,A,(((cY.refl S0).upd l _).trans a).none B,C⟩⟩







def subX(H:aB)(x:Nat->Int):Nat->Nat->Int
 | 0=>x
 | c+1=>fun i=>subX H x c i-(subX H x c c/H c c)*H i c
theorem sN{b:Int}(c:0<b):(a/b).natAbs<=a.natAbs:=by
 have f:=Int.mul_ediv_add_emod a b;have g:=a9 a (om:b≠0)
 have i:=aU a c;rcases Int.lt_or_le (a/b) 0 with h|h
 ·have d:(a/b)*(b-1)<=0:=Int.mul_nonpos_of_nonpos_of_nonneg om om;have e:b*(a/b)=(a/b)*(b-1)+a/b:=by rw[rm,ie,bZ];omega
  have j:(a/b+1)*(b-1)<=0:=Int.mul_nonpos_of_nonpos_of_nonneg om om;have k:(a/b+1)*(b-1)=(a/b)*(b-1)+(b-1):=by rw[Int.add_mul,cF]
  omega
 ·have d:0<=(a/b)*(b-1):=dA h om;have e:b*(a/b)=(a/b)*(b-1)+a/b:=by rw[rm,ie,bZ];omega
  omega
def ConI(S:St)(b7 b10 n:Nat)(f:Nat->Int)(q:Int):Prop:=aR S b7 50 2 n (fun a=>.big (f a))/\cE S b10 50 2 (.big q)



theorem EQ{f:Nat->Int}(h:∀i,i<n->0<=f i/\f i<=B):0<=aq n f/\aq n f<=n*B:=by
 induction n with
 | zero=>simp[aq]
 | succ n ih =>
  have a:=ih (fun i b=>h i om);have c:=h n om;simp only[aq];rw[Int.natCast_add,Int.add_mul];simp only[Int.natCast_one,cF];omega
theorem mZ{b A:Int}(d:0<=a/\a<=A)(c:0<=b/\b<=B):0<=a*b/\a*b<=A*B :=
 ⟨dA d.1 c.1,Int.mul_le_mul d.2 c.2 c.1 om⟩
theorem Cw(n m:Nat)(r v:Nat->Int)(u:n<=8)(w:1<=m)(h:∀i,i<n->0<=r i/\r i<=10000)(k:∀i,i<n->0<=v i/\v i<=10000):PF 178 [aX n r,aX n v,.int .i64 m] (.int .i64 ((aq n fun j=>r j*v j)%m)):=by
 refine PF.of_spec (ak func178 rfl 29 ntmps178 kr sm (by simp[results178]) ?_)
 rw[aF,results178];have e:¬((m:Int)=0):=om
 simp -dsimp only[go_sem,aX];refine aI (fun O S=>∃i:Nat,i<=n/\O 0=aX n r/\O 2=.int .i64 m/\O 7=.int .i64 (aq i fun j=>r j*v j)/\O 10=aX n v/\O 11=.int .i64 n/\O 12=.int .i64 i) (fun O S=>n-bT (O 12)) ?_ ?_
 ·simp -dsimp only[go_sem,aX];exact⟨0,om,rfl,rfl⟩
 ·rintro O S ⟨i,x,l,o,p,b,c,d⟩;have q:=EQ (n:=i) (f:=fun j=>r j*v j) (B:=10000*10000) (fun j y=>mZ (h j om) (k j om));have s:(i:Int)*(10000*10000)<=8*(10000*10000):=bE om om;by_cases a:i<n
  ·have z:=mZ (h i a) (k i a);have g:IntKind.i64.wrap (r i*v i)=r i*v i:=i64_in om om;have t:IntKind.i64.wrap ((aq i fun j=>r j*v j)+r i*v i)=aq (i+1) fun j=>r j*v j:=i64_in om om;simp -dsimp only[go_sem,aX,l,o,p,b,c,d,a,g,t,aM (om:i<1000000),bT]
   exact⟨⟨i+1,om,rfl,rfl⟩,om⟩
  ·obtain rfl:i=n:=om
   have g:eF (aq i fun j=>r j*v j) m=(aq i fun j=>r j*v j)%m:=aN q.1;simp -dsimp only[go_sem,aX,l,o,p,b,c,d,a,e,g];exact VR.mf rfl
theorem xa(n m:Nat)(A:aB)(v:Nat->Int)(u:n<=8)(w:1<=m)(x:m<=10000)(y:∀i j,i<n->j<n->0<=A i j/\A i j<=10000)(g:∀i,i<n->0<=v i/\v i<=10000):PF 180 [ax n n A,aX n v,.int .i64 m] (.int .i64 (gC n A v n%m)):=by
 refine PF.of_spec (ak func180 rfl 32 ntmps180 kr sm (by simp[results180]) ?_)
 rw[aF,results180];have h:¬((m:Int)=0):=om
 simp -dsimp only[go_sem,aX,ax];refine aI (fun O S=>∃i:Nat,i<=n/\O 0=ax n n A/\O 1=aX n v/\O 2=.int .i64 m/\O 7=.int .i64 (aq i fun i=>(aq n fun j=>A i j*v j)%m*v i)/\O 10=aX n v/\O 11=.int .i64 n/\O 12=.int .i64 i) (fun O S=>n-bT (O 12)) ?_ ?_
 ·simp -dsimp only[go_sem,aX,ax];exact⟨0,om,rfl,rfl⟩
 ·rintro O S ⟨i,F,l,o,p,q,c,d,e⟩;have s:∀j,0<=(aq n fun k=>A j k*v k)%m/\(aq n fun k=>A j k*v k)%m<=10000:=fun j=>by
   have z:=a9 (aq n fun k=>A j k*v k) (show(m:Int)≠0 by omega)
   have G:=aU (aq n fun k=>A j k*v k) (show(0:Int)<m by omega)
   omega
  have C:=EQ (n:=i) (f:=fun i=>(aq n fun j=>A i j*v j)%m*v i) (B:=10000*10000) (fun j t=>mZ (s j) (g j om));have D:(i:Int)*(10000*10000)<=8*(10000*10000):=bE om om;by_cases b:i<n
  ·have z:=mZ (s i) (g i b);have r:IntKind.i64.wrap ((aq n fun j=>A i j*v j)%m*v i)=(aq n fun j=>A i j*v j)%m*v i:=i64_in om om;have E:IntKind.i64.wrap ((aq i fun i=>(aq n fun j=>A i j*v j)%m*v i)+(aq n fun j=>A i j*v j)%m*v i)=aq (i+1) fun i=>(aq n fun j=>A i j*v j)%m*v i:=i64_in om om;simp -dsimp only[go_sem,aa,aX,ax,l,o,p,q,c,d,e,b];refine(Cw n m (A i) v u w (fun j t=>y i j b t) g).call ?_;simp -dsimp only[go_sem,aX,ax,l,o,p,q,c,d,e,r,E,aM (om:i<1000000),bT]
   exact⟨⟨i+1,om,rfl,rfl⟩,om⟩
  ·obtain rfl:i=n:=om
   have r:eF (aq i fun a=>(aq i fun j=>A a j*v j)%m*v a) m=gC i A v i%m:=by
    rw[aN C.1];unfold gC;exact mA i _ _ m fun a _=>by rw[ft,Int.emod_emod_of_dvd _ (Int.dvd_refl _),<-ft]
   simp -dsimp only[go_sem,aa,aX,ax,l,o,p,q,c,d,e,b,h,r];exact VR.mf rfl

structure eQ(o e es:Nat)(S1 S:St)(b:Nat)(g:Nat->Nat)(n m k:Nat)(E:Nat->Nat->AV):Prop where
 ext:cY S1 S
 new:S1 b=ae
 outer:aR S b o 1 n (fun i=>if i<k then .sl es (g i) 0 m else .nil)
 row:∀i,i<k->aR S (g i) e es m (E i)
 rnew:∀i,i<k->S1 (g i)=ae
 inj:∀i j,i<k->j<k->g i=g j->i=j
theorem eQ.init(c:S1 b=ae){n m:Nat}{z:Nat->AV}(d:∀i,i<n->z i=.nil)(g:Nat->Nat)(E:Nat->Nat->AV):eQ o e es S1 (S1.upd b ⟨o,1,n,z⟩) b g n m 0 E :=
 ⟨(cY.refl S1).upd c _,c,aR.here fun i a=>by rw[if_neg om];exact d i a,fun i a=>om,fun i a=>om,fun i j a=>om⟩
theorem eQ.ne(h:eQ o e es S1 S b g n m k E)(a:o≠e){i:Nat}(c:i<k):b≠g i:=aR.ne h.outer (h.row i c) a
theorem eQ.push(h:eQ o e es S1 S b g n m k E)(l:o≠e){c:Nat}(a:S c=ae){g':Nat->AV}(q:S b=some ⟨o,1,n,g'⟩)(z:Nat->AV) :
  eQ o e es S1 ((S.upd c ⟨e,es,m,z⟩).upd b ⟨o,1,n,aL g' k (.sl es c 0 m)⟩) b (fun i=>if i=k then c else g i) n m (k+1) (fun i=>if i=k then z else E i):=by
 have p:b≠c:=by rintro rfl;rw[q]at a;cases a
 have d:=h.ext.none a;obtain⟨w,r,t⟩:=h.outer;rw[q]at r;cases r;refine⟨(h.ext.upd d _).upd h.new _,h.new,aR.here fun i f=>?_,fun i f=>?_,fun i f=>?_,fun i j f x e=>?_⟩
 ·have:=t i f;grind [aL]
 ·by_cases e:i=k
  ·simp only[e,if_true];exact(aR.here fun _ _=>rfl).upd (ai p) _
  ·simp only[e,if_false];have s:=h.row i om;exact(s.upd (aR.fresh s a) _).upd (ai (h.ne l om)) _
 ·by_cases e:i=k
  ·simp only[e,if_true];exact d
  ·simp only[e,if_false];exact h.rnew i om
 ·by_cases u:i=k<;>by_cases v:j=k<;>simp only[u,v,if_true,if_false]at e ⊢
  ·exact absurd e.symm (aR.fresh (h.row j om) a)
  ·exact absurd e (aR.fresh (h.row i om) a)
  ·exact h.inj i j om om e
theorem eQ.put(h:eQ o e es S1 S b g n m k E)(d:o≠e){i:Nat}(f:i<k){g':Nat->AV}(q:S (g i)=some ⟨e,es,m,g'⟩)(j:Nat)(v:AV) :
  eQ o e es S1 (S.upd (g i) ⟨e,es,m,aL g' j v⟩) b g n m k (fun a c=>if a=i/\c=j then v else E a c):=by
 refine⟨h.ext.upd (h.rnew i f) _,h.new,h.outer.upd (h.ne d f) _,fun a l=>?_,h.rnew,h.inj⟩;by_cases e:a=i
 ·subst e;obtain⟨u,p,r⟩:=h.row a l;rw[q]at p;cases p;refine aR.here fun c s=>?_;have:=r c s;simp only[aL]
  grind
 ·refine((h.row a l).upd (fun t=>e (h.inj a i l f t)) _).congr fun c _=>?_;simp[e]
theorem eQ.congr(h:eQ o e es S1 S b g n m k E)(c:∀i j,i<k->j<m->E i j=E' i j):eQ o e es S1 S b g n m k E' :=
 ⟨h.ext,h.new,h.outer,fun i a=>(h.row i a).congr fun j d=>c i j a d,h.rnew,h.inj⟩
theorem eQ.imat{A:aB}(h:eQ 29 2 1 S1 S b g n m n E)(c:∀i j,i<n->j<m->E i j=.int .i64 (A i j)):kS S1 S b g n m A :=
 ⟨⟨h.outer.congr fun i a=>by rw[if_pos a],fun i a=>(h.row i a).congr fun j d=>c i j a d,h.inj⟩,h.ext,h.new,h.rnew⟩
theorem eQ.mat{A:aB}(h:eQ 59 50 2 S1 S b g n m n E)(c:∀i j,i<n->j<m->E i j=.big (A i j)):ir S1 S b g n m A :=
 ⟨⟨h.outer.congr fun i a=>by rw[if_pos a],fun i a=>(h.row i a).congr fun j d=>c i j a d,h.inj⟩,h.ext,h.new,h.rnew⟩
theorem eQ.other(h:eQ o e es S1 S b g n m k E){S':St}(a:cY S S'):eQ o e es S1 S' b g n m k E :=
 ⟨h.ext.trans a,h.new,a.has h.outer,fun i c=>a.has (h.row i c),h.rnew,h.inj⟩
theorem eQ.upd(h:eQ o e es S1 S b g n m k E){c:Nat}(d:S1 c=ae)(f:b≠c)(j:∀i,i<k->g i≠c)(X:dH):eQ o e es S1 (S.upd c X) b g n m k E :=
 ⟨h.ext.upd d _,h.new,h.outer.upd f _,fun i a=>(h.row i a).upd (j i a) _,h.rnew,h.inj⟩
theorem Du{t:Nat}(l:Nat){a:Int}{g:Nat->AV}{k:IntKind}{K:AV->Prop}(b:dw t=some e)(c:es=bS e)(d:a=(l:Int))(f:l<=n)(h:K (.lst es (n-l) (fun j=>g (l+j)))):kQ t (.lst es n g) (some (.int k a)) ae ae K:=by
 unfold kQ;rw[b];exact⟨c,l,n,d,rfl,trivial,f,af _,h⟩

theorem pQ(m:Nat)(A:aB)(p:1<=m)(q:m<=8)(r:0<A 0 0)(g:A 0 0<65536)(h:∀i,1<=i->i<m->2*A i 0<=A 0 0/\-2*A i 0<=A 0 0):PF 108 [ax m m A] (.bool true):=by
 refine PF.of_spec (ak func108 rfl 39 ntmps108 kr sm (by simp[results108]) ?_)
 rw[aF,results108];have j:0<m:=om
 have a:(0:Int)<(m:Int):=om
 have k:¬(A 0 0<=0):=om
 have l:¬((65536:Int)<=A 0 0):=om
 simp -dsimp only[go_sem,aX,ax,a,k,l,Option.map_none,Option.map_some];refine Du 1 rfl rfl rfl om ?_;simp -dsimp only[go_sem];refine aI (fun O S=>∃i:Nat,i<=m-1/\O 3=.int .i64 (A 0 0)/\O 18=.lst 1 (m-1) (fun i=>aX m (A (1+i)))/\O 19=.int .i64 ((m-1:Nat):Int)/\O 20=.int .i64 i) (fun O S=>m-bT (O 20)) ?_ ?_
 ·simp -dsimp only[go_sem,aX];exact⟨0,om,rfl⟩
 ·rintro O S ⟨i,s,f,b,c,d⟩;by_cases e:i<m-1
  ·obtain⟨t,u⟩:=h (1+i) om om;have n:IntKind.i64.wrap (2*A (1+i) 0)=2*A (1+i) 0:=i64_in om om;have o:IntKind.i64.wrap (-2*A (1+i) 0)=-2*A (1+i) 0:=i64_in om om;simp -dsimp only[go_sem,aX,f,b,c,d,a,e,n,o,(om:¬(A 0 0<2*A (1+i) 0)),(om:¬(A 0 0 < -2*A (1+i) 0)),aM (om:i<1000000),bT]
   exact⟨⟨i+1,om,rfl⟩,om⟩
  ·simp -dsimp only[go_sem,aX,f,b,c,d,e];exact VR.mf rfl
theorem DW(n:Nat)(A:aB)(v:1<=n)(w:n<=8)(r:∀i j,i<n->j<n->A i j=A j i)(s:∀i j,i<n->j<n->-262144<A i j/\A i j<262144):PF 107 [ax n n A] (.bool true):=by
 refine PF.of_spec (ak func107 rfl 62 ntmps107 kr sm (by simp[results107]) ?_)
 rw[aF,results107];simp -dsimp only[go_sem,aX,ax,(om:¬((n:Int)<1)),(om:¬((8:Int)<(n:Int)))]
 refine aI (fun O S=>∃i:Nat,i<=n/\O 0=ax n n A/\O 3=.int .i64 n/\O 18=ax n n A/\O 19=.int .i64 n/\O 20=.int .i64 i) (fun O S=>n-bT (O 20)) ?_ ?_
 ·simp -dsimp only[go_sem,aX,ax];exact⟨0,om,rfl⟩
 ·rintro O S ⟨i,t,e,p,g,h,k⟩;by_cases a:i<n
  ·simp -dsimp only[go_sem,aX,ax,e,p,g,h,k,a,show((n:Int) != n)=false by simp,aM (om:i<1000000),bT]
   exact⟨⟨i+1,om,rfl⟩,om⟩
  ·simp -dsimp only[go_sem,aX,ax,e,p,g,h,k,a];clear p g h k;refine aI (fun O S=>∃i:Nat,i<=n/\O 0=ax n n A/\O 29=ax n n A/\O 30=.int .i64 n/\O 31=.int .i64 i) (fun O S=>n-bT (O 31)) ?_ ?_
   ·simp -dsimp only[go_sem,aX,ax,e];exact⟨0,om,rfl⟩
   ·clear e;rintro O S ⟨i,t,e,b,c,d⟩;by_cases a:i<n
    ·simp -dsimp only[go_sem,aX,ax,b,c,d,a];refine aI (fun O S=>∃j:Nat,j<=n/\O 0=ax n n A/\O 6=.int .i64 i/\O 29=ax n n A/\O 30=.int .i64 n/\O 31=.int .i64 i/\O 36=aX n (A i)/\O 37=.int .i64 n/\O 38=.int .i64 j) (fun O S=>n-bT (O 38)) ?_ ?_
     ·simp -dsimp only[go_sem,aX,ax,e,b,c,d];exact⟨0,om,rfl⟩
     ·clear e b c d;rintro O S ⟨j,x,e,q,b,c,d,l,m,o⟩;by_cases f:j<n
      ·have y:=s i j a f;have u:=r i j a f;simp -dsimp only[go_sem,aX,ax,e,q,b,c,d,l,m,o,a,f,show(A i j != A j i)=false by rw[u];simp,(om:¬(A i j<=-262144)),(om:¬((262144:Int)<=A i j)),aM (om:j<1000000),bT]
       exact⟨⟨j+1,om,rfl⟩,om⟩
      ·simp -dsimp only[go_sem,aX,ax,e,q,b,c,d,l,m,o,a,f,aM (om:i<1000000),bT]
       exact⟨⟨i+1,om,rfl⟩,om⟩
    ·simp -dsimp only[go_sem,aX,ax,b,c,d,a];exact VR.mf rfl

theorem r8(n m:Nat)(A:aB)(h:1<=n)(j:n<=16)(k:1<=m)(l:m<=16):PF 223 [ax n m A] (.bool true):=by
 refine PF.of_spec (ak func223 rfl 41 ntmps223 kr sm (by simp[results223]) ?_)
 rw[aF,results223];have g:0<n:=om
 have a:(0:Int)<(n:Int):=om
 simp -dsimp only[go_sem,aX,ax,a,(om:¬((n:Int)<1)),(om:¬((16:Int)<(n:Int))),(om:¬((m:Int)<1)),(om:¬((16:Int)<(m:Int)))]
 refine aI (fun O S=>∃i:Nat,i<=n/\O 0=ax n m A/\O 27=ax n m A/\O 28=.int .i64 n/\O 29=.int .i64 i) (fun O S=>n-bT (O 29)) ?_ ?_
 ·simp -dsimp only[go_sem,aX,ax];exact⟨0,om,rfl⟩
 ·rintro O S ⟨i,o,f,b,c,d⟩;by_cases e:i<n
  ·simp -dsimp only[go_sem,aX,ax,f,b,c,d,a,e,show((m:Int) != m)=false by simp,aM (om:i<1000000),bT]
   exact⟨⟨i+1,om,rfl⟩,om⟩
  ·simp -dsimp only[go_sem,aX,ax,f,b,c,d,e];exact VR.mf rfl
theorem kq(m:Int)(a:2<=m)(b:m<=2147483647):PF 224 [.int .i64 m] (.int .i64 0):=by
 refine PF.of_spec (ak func224 rfl 9 ntmps224 kr sm (by simp[results224]) ?_)
 rw[aF,results224];simp -dsimp only[go_sem,(om:¬(m<2)),(om:¬((2147483647:Int)<m))]
 exact VR.mf rfl
theorem uC(n:Nat)(A:aB)(b:1<=n)(d:n<=8):PF 226 [ax n n A] (.bool true):=by
 refine PF.of_spec (ak func226 rfl 19 ntmps226 kr sm (by simp[results226]) ?_)
 rw[aF,results226];have c:0<n:=om
 have a:(0:Int)<(n:Int):=om
 simp -dsimp only[go_sem,aa];refine(r8 n n A b om b om).call ?_;simp -dsimp only[go_sem,aX,ax,a,show((n:Int)<=8) by omega,show((n:Int)==n)=true by simp]
 exact VR.mf rfl
theorem BX{x m:Int}(d:1<=m)(a:m<=2147483647):IntKind.i64.wrap (eF x m+m)=eF x m+m/\eF (eF x m+m) m=x%m:=by
 have e:eF x m<m:=Int.tmod_lt_of_pos x om;have f:-m<eF x m:=by
  have:=Int.tmod_lt_of_pos (-x) (om:0<m)
  rw[Int.neg_tmod]at this;omega
 have b:eF (eF x m+m) m=x%m:=by
  rw[aN om,Int.add_emod_right];have g:x=m*iQ x m+eF x m:=(Int.mul_tdiv_add_tmod x m).symm;have c:x%m=(eF x m+m*iQ x m)%m:=by rw[<-(om:x=eF x m+m*iQ x m)]
  rw[c,Int.add_mul_emod_self_left]
 have h:=a9 x (om:m≠0)
 have i:=aU x (om:0<m)
 exact⟨i64_in om om,b⟩
def kW(A:aB)(m:Int):aB:=fun i j=>A i j%m
theorem lR(n k:Nat)(A:aB)(m:Int)(L:n<=16)(M:k<=16)(F:1<=m)(v:m<=2147483647):LX 225 [ax n k A,.int .i64 m] n k (kW A m):=by
 refine LX.of ?_;refine ak func225 rfl 49 ntmps225 kr sm (by simp[results225]) ?_
 rw[aF,results225];have w:¬(m=0):=om
 simp -dsimp only[go_sem,aX,ax]
 repeat refine an ?_
 refine au.intro fun bc fc=>?_;simp -dsimp only[go_sem];refine aI (fun O S'=>∃i:Nat,i<=n/\O 1=.int .i64 m/\O 5=.sl 1 bc 0 n/\O 13=ax n k A/\O 14=.int .i64 n/\O 15=.int .i64 i/\∃g',eQ 29 2 1 St.none S' bc g' n k i (fun a j=>.int .i64 (kW A m a j))) (fun O S=>n-bT (O 15)) ?_ ?_
 ·simp -dsimp only[go_sem,aX,ax];exact⟨0,om,rfl,fun _=>0,eQ.init fc (fun _ _=>rfl) _ _⟩
 ·rintro O S' ⟨i,N,t,l,b,d,f,g',h⟩;by_cases g:i<n
  ·obtain⟨C,u,y⟩:=id h.outer;simp -dsimp only[go_sem,aa,ax,aX,l,b,d,f,g]
   repeat refine an ?_
   refine au.intro fun bd fd=>?_;have z:bc≠bd:=aR.fresh h.outer fd;simp -dsimp only[go_sem,g,u,z];have o:=h.push dc fd u (fun _=>.int .i64 0)
   generalize B:(fun a=>if a=i then bd else g' a)=gg at o
   refine aI (fun O S'=>∃j:Nat,j<=k/\O 1=.int .i64 m/\O 5=.sl 1 bc 0 n/\O 6=.int .i64 i/\O 13=ax n k A/\O 14=.int .i64 n/\O 15=.int .i64 i/\O 26=aX k (A i)/\O 27=.int .i64 k/\O 28=.int .i64 j/\eQ 29 2 1 St.none S' bc gg n k (i+1) (fun a c=>.int .i64 (if a=i/\j<=c then 0 else kW A m a c))) (fun O S=>k-bT (O 28)) ?_ ?_
   ·simp -dsimp only[go_sem,ax,aX,t,l,b,d,f];refine⟨0,om,rfl,o.congr fun a c _ _=>?_⟩
    by_cases e:a=i
    ·simp[e]
    ·simp[e]
   ·clear t l b d f h o u y B;rintro O S' ⟨j,P,t,l,G,b,d,f,p,q,r,h⟩;by_cases s:j<k
    ·obtain⟨C,u,y⟩:=id h.outer;obtain⟨Q,D,R⟩:=id (h.row i om);have H:C i=.sl 1 (gg i) 0 k:=(y i g).trans (if_pos om);obtain⟨I,J⟩:=BX (x:=A i j) F v;simp -dsimp only[go_sem,ax,aX,t,l,b,d,f,p,q,r,s];refine aP 13 kr ?_
     simp -dsimp only[go_sem,aa,ax,aX,t,l,G,b,d,f,p,q,r,g,s,u,H,D,w,I,J,aM (om:j<1000000),bT]
     refine⟨⟨j+1,om,rfl,(h.put dc (om:i<i+1) D j (.int .i64 (kW A m i j))).congr fun a c _ _=>?_⟩,om⟩
     by_cases e:a=i/\c=j
     ·obtain⟨rfl,rfl⟩:=e;rw[if_pos ⟨rfl,rfl⟩,if_neg om]
     ·rw[if_neg e];congr 1;by_cases E:a=i/\j<=c
      ·rw[if_pos E,if_pos om]
      ·rw[if_neg E,if_neg om]
    ·simp -dsimp only[go_sem,ax,aX,t,l,b,d,f,p,q,r,s,aM (om:i<1000000),bT]
     exact⟨⟨i+1,om,rfl,gg,h.congr fun a c _ T=>by rw[if_neg om]⟩,om⟩
  ·obtain rfl:i=n:=om
   have K:=h.imat (A:=kW A m) (fun _ _ _ _=>rfl);simp -dsimp only[go_sem,aa,ax,aX,l,b,d,f,g];exact⟨bc,rfl,g',K.1⟩
def Db(f:Nat)(args:List AV)(n m:Nat)(A:Nat->Nat->Int):Prop:=∀S args',dT S args' args->cL f args' S (fun r S'=>∃b g,r=.tup [.sl 1 b 0 n,.int .i64 0]/\kS S S' b g n m A)
theorem Db.of(h:cL f args St.none (fun r S'=>∃b g,r=.tup [.sl 1 b 0 n,.int .i64 0]/\cT S' b g n m A)):Db f args n m A:=fun S args' c=>by
 have d:cL f args St.none (fun r S'=>∃b g,r=.tup [.sl 1 b 0 n,.int .i64 0]/\cT S' b g n m A/\yz S'):=h.less fun r S' ⟨b,g,e,a⟩=>⟨cZ S' b g n,fU S' b g n,b,g,e,a.only.1,a.only.2⟩;refine(d.frame c ?_).mono ?_
 ·rintro r S1 ⟨b,g,rfl,_,i⟩;exact⟨rfl,i⟩
 ·rintro r S' ⟨S1,⟨b,g,rfl,a,_⟩,j,rfl⟩;exact⟨b,g,rfl,a.join j⟩
theorem uV(n k:Nat)(A:aB)(m:Int)(e:1<=n)(c:n<=16)(f:1<=k)(d:k<=16)(h:2<=m)(a:m<=2147483647):Db 176 [ax n k A,.int .i64 m] n k (kW A m):=by
 refine Db.of ?_;refine ak func176 rfl 18 ntmps176 kr sm (by simp[results176]) ?_
 rw[aF,results176];simp -dsimp only[go_sem,aa];refine(r8 n k A e c f d).call ?_;simp -dsimp only[go_sem,aa];refine(kq m h a).call ?_;simp -dsimp only[go_sem,aa];refine(lR n k A m c d om a _ _ (cD _ _)).mono ?_;rintro _ S' ⟨b,g,rfl,i⟩;simp -dsimp only[go_sem];exact⟨b,rfl,g,i.1⟩
def jZ(A B:aB)(K:Nat)(m:Int):aB:=fun i j=>(aq K fun t=>A i t*B t j)%m
theorem DD(n K l:Nat)(A B:aB)(m:Int)(hn:n<=16)(hK:1<=K)(P:K<=16)(hl:l<=16)(hm:1<=m)(Q:m<=2147483647)(R:∀i j,i<n->j<K->0<=A i j/\A i j<m)(T:∀i j,i<K->j<l->0<=B i j/\B i j<m):LX 231 [ax n K A,ax K l B,.int .i64 m] n l (jZ A B K m):=by
 refine LX.of ?_;refine ak func231 rfl 72 ntmps231 kr sm (by simp[results231]) ?_
 rw[aF,results231];have E:¬(m=0):=om
 have U:0<K:=om
 have F:(0:Int)<(K:Int):=om
 simp -dsimp only[go_sem,aX,ax]
 repeat refine an ?_
 refine au.intro fun bc fc=>?_;simp -dsimp only[go_sem];refine aI (fun O S'=>∃i:Nat,i<=n/\O 1=ax K l B/\O 2=.int .i64 m/\O 7=.sl 1 bc 0 n/\O 17=ax n K A/\O 18=.int .i64 n/\O 19=.int .i64 i/\∃g',eQ 29 2 1 St.none S' bc g' n l i (fun a j=>.int .i64 (jZ A B K m a j))) (fun O S=>n-bT (O 19)) ?_ ?_
 ·simp -dsimp only[go_sem,aX,ax];exact⟨0,om,rfl,fun _=>0,eQ.init fc (fun _ _=>rfl) _ _⟩
 ·rintro O S' ⟨i,hi,r,p,s,b,d,f,g',q⟩;by_cases t:i<n
  ·obtain⟨L,D,G⟩:=id q.outer;simp -dsimp only[go_sem,aa,ax,aX,r,s,b,d,f,t,F]
   repeat refine an ?_
   refine au.intro fun bd fd=>?_;have H:bc≠bd:=aR.fresh q.outer fd;simp -dsimp only[go_sem,t,D,H];have w:=q.push dc fd D (fun _=>.int .i64 0)
   generalize I:(fun a=>if a=i then bd else g' a)=gg at w
   refine aI (fun O S'=>∃k:Nat,k<=K/\O 1=ax K l B/\O 2=.int .i64 m/\O 7=.sl 1 bc 0 n/\O 8=.int .i64 i/\O 17=ax n K A/\O 18=.int .i64 n/\O 19=.int .i64 i/\O 32=aX K (A i)/\O 33=.int .i64 K/\O 34=.int .i64 k/\eQ 29 2 1 St.none S' bc gg n l (i+1) (fun a c=>.int .i64 (if a=i then jZ A B k m i c else jZ A B K m a c))) (fun O S=>K-bT (O 34)) ?_ ?_
   ·simp -dsimp only[go_sem,ax,aX,r,p,s,b,d,f];refine⟨0,om,rfl,w.congr fun a c _ _=>?_⟩
    by_cases e:a=i
    ·simp[e,jZ,aq]
    ·simp[e]
   ·clear r p s b d f q w D G I;rintro O S' ⟨k,hk,r,p,s,C,b,d,f,g,h,o,q⟩;by_cases v:k<K
    ·simp -dsimp only[go_sem,ax,aX,r,p,s,b,d,f,g,h,o,v];refine aI (fun O S'=>∃j:Nat,j<=l/\O 1=ax K l B/\O 2=.int .i64 m/\O 7=.sl 1 bc 0 n/\O 8=.int .i64 i/\O 11=.int .i64 (A i k)/\O 17=ax n K A/\O 18=.int .i64 n/\O 19=.int .i64 i/\O 32=aX K (A i)/\O 33=.int .i64 K/\O 34=.int .i64 k/\O 42=aX l (B k)/\O 43=.int .i64 l/\O 44=.int .i64 j/\eQ 29 2 1 St.none S' bc gg n l (i+1) (fun a c=>.int .i64 (if a=i then(if c<j then jZ A B (k+1) m i c else jZ A B k m i c)else jZ A B K m a c))) (fun O S=>l-bT (O 44)) ?_ ?_
     ·simp -dsimp only[go_sem,ax,aX,r,p,s,C,b,d,f,g,h,o];exact⟨0,om,rfl,q.congr fun a c _ _=>by simp⟩
     ·clear r p s C b d f g h o q;rintro O S' ⟨j,hj,r,p,s,C,J,b,d,f,g,h,o,x,y,z,q⟩;by_cases u:j<l
      ·obtain⟨L,D,G⟩:=id q.outer;obtain⟨V,M,W⟩:=id (q.row i om);have X:L i=.sl 1 (gg i) 0 l:=(G i t).trans (if_pos om);have Y:V j=.int .i64 (jZ A B k m i j):=(W j u).trans sm
       have b1:=R i k t v;have b2:=T k j v u;have b3:0<=jZ A B k m i j/\jZ A B k m i j<m:=⟨a9 _ om,aU _ om⟩;have b4:=mZ (A:=2147483646) (B:=2147483646) (om:0<=A i k/\A i k<=2147483646) (om:0<=B k j/\B k j<=2147483646)
       have Z:IntKind.i64.wrap (A i k*B k j)=A i k*B k j:=i64_in om om;have q2:IntKind.i64.wrap (jZ A B k m i j+A i k*B k j)=jZ A B k m i j+A i k*B k j:=i64_in om om;have q3:eF (jZ A B k m i j+A i k*B k j) m=jZ A B (k+1) m i j:=by
        rw[aN om];simp only[jZ,aq];rw[Int.emod_add_emod]
       simp -dsimp only[go_sem,ax,aX,r,p,s,C,b,d,f,g,h,o,x,y,z,u];refine aP 19 kr ?_
       simp -dsimp only[go_sem,aa,ax,aX,r,p,s,C,J,b,d,f,g,h,o,x,y,z,t,u,D,X,M,Y,E,Z,q2,q3,aM (om:j<1000000),bT]
       refine⟨⟨j+1,om,rfl,(q.put dc (om:i<i+1) M j (.int .i64 (jZ A B (k+1) m i j))).congr fun a c _ _=>?_⟩,om⟩
       by_cases e:a=i/\c=j
       ·obtain⟨rfl,rfl⟩:=e;simp
       ·rw[if_neg e];congr 1;by_cases p:a=i
        ·rw[if_pos p,if_pos p];by_cases N:c<j
         ·rw[if_pos N,if_pos om]
         ·rw[if_neg N,if_neg om]
        ·rw[if_neg p,if_neg p]
      ·simp -dsimp only[go_sem,ax,aX,r,p,s,C,b,d,f,g,h,o,x,y,z,u,aM (om:k<1000000),bT]
       exact⟨⟨k+1,om,rfl,q.congr fun a c _ hc=>by rw[if_pos (om:c<j)]⟩,om⟩
    ·obtain rfl:k=K:=om
     simp -dsimp only[go_sem,ax,aX,r,p,s,b,d,f,g,h,o,v,aM (om:i<1000000),bT]
     exact⟨⟨i+1,om,rfl,gg,q.congr fun a c _ hc=>by by_cases e:a=i<;>simp[e]⟩,om⟩
  ·obtain rfl:i=n:=om
   have hN:=q.imat (A:=jZ A B K m) (fun _ _ _ _=>rfl);simp -dsimp only[go_sem,aa,ax,aX,r,s,b,d,f,t];exact⟨bc,rfl,g',hN.1⟩

theorem VA.ptr{ty:Nat}(e:cE S b ty es x)(f:VA S x x'):VA S (.ptr es b 0) (.pat es x'):=by
 intro w v a c;obtain⟨g',g,h⟩:=e;obtain⟨cs,d,m,i,n⟩:=a b _ g;simp only[bB]at c ⊢;subst c;obtain⟨u,j,k⟩:=i 0 (by simp only;omega)
 refine⟨b,es*0,u,rfl,dW d,fun l=>l,⟨cs,ty,(0,0),d,j⟩,f w u a ?_⟩;rw[<-h];exact k
theorem VA.fn(h:dT S l l'):VA S (.fn f l) (.fn f l'):=by
 intro w v b a;simp only[bB]at a ⊢;obtain⟨vs,rfl,c⟩:=a;exact⟨vs,rfl,vZ b _ _ _ h c⟩
theorem ks(n m:Nat)(A:aB)(j:1<=n)(k:n<=16)(l:1<=m)(o:m<=16):PF 97 [aV n m A] (.tup [.int .i64 n,.int .i64 m,.bool true]):=by
 refine PF.of_spec (ak func97 rfl 40 ntmps97 kr sm (by simp[results97]) ?_)
 rw[aF,results97];have h:0<n:=om
 have e:(0:Int)<(n:Int):=om
 simp -dsimp only[go_sem,bA,aV,e,(om:¬((n:Int)<1)),(om:¬((16:Int)<(n:Int))),(om:¬((m:Int)<1)),(om:¬((16:Int)<(m:Int)))]
 refine aI (fun O S=>∃i:Nat,i<=n/\O 0=aV n m A/\O 5=.int .i64 m/\O 26=aV n m A/\O 27=.int .i64 n/\O 28=.int .i64 i) (fun O S=>n-bT (O 28)) ?_ ?_
 ·simp -dsimp only[go_sem,bA,aV];exact⟨0,om,rfl⟩
 ·rintro O S ⟨i,p,f,g,a,b,c⟩;by_cases d:i<n
  ·simp -dsimp only[go_sem,bA,aV,f,g,a,b,c,d,show((m:Int) != m)=false by simp,aM (om:i<1000000),bT]
   exact⟨⟨i+1,om,rfl⟩,om⟩
  ·simp -dsimp only[go_sem,bA,aV,f,g,a,b,c,d];exact VR.tup (by simp[qN])
theorem Cc(n m:Nat)(A:aB)(j:1<=n)(k:n<=16)(l:1<=m)(o:m<=16):PF 154 [ax n m A] (.tup [.int .i64 n,.int .i64 m,.bool true]):=by
 refine PF.of_spec (ak func154 rfl 40 ntmps154 kr sm (by simp[results154]) ?_)
 rw[aF,results154];have h:0<n:=om
 have e:(0:Int)<(n:Int):=om
 simp -dsimp only[go_sem,aX,ax,e,(om:¬((n:Int)<1)),(om:¬((16:Int)<(n:Int))),(om:¬((m:Int)<1)),(om:¬((16:Int)<(m:Int)))]
 refine aI (fun O S=>∃i:Nat,i<=n/\O 0=ax n m A/\O 5=.int .i64 m/\O 26=ax n m A/\O 27=.int .i64 n/\O 28=.int .i64 i) (fun O S=>n-bT (O 28)) ?_ ?_
 ·simp -dsimp only[go_sem,aX,ax];exact⟨0,om,rfl⟩
 ·rintro O S ⟨i,p,f,g,a,b,c⟩;by_cases d:i<n
  ·simp -dsimp only[go_sem,aX,ax,f,g,a,b,c,d,show((m:Int) != m)=false by simp,aM (om:i<1000000),bT]
   exact⟨⟨i+1,om,rfl⟩,om⟩
  ·simp -dsimp only[go_sem,aX,ax,f,g,a,b,c,d];exact VR.tup (by simp[qN])
theorem qe(n m F:Nat)(l:List AV)(A:aB)(G:11<=F/\F<252)(H:n<=16)(I:m<=16)(B:∀i j:Nat,i<n->j<m->PF F ([.int .i64 i,.int .i64 j]++l) (.big (A i j))):MF 131 [.int .i64 n,.int .i64 m,.fn F l] n m A:=by
 refine MF.of ?_;refine ak func131 rfl 43 ntmps131 kr sm (by simp[results131]) ?_
 rw[aF,results131];simp -dsimp only[go_sem]
 repeat refine an ?_
 refine au.intro fun bc fc=>?_;simp -dsimp only[go_sem];refine aI (fun O S'=>∃i:Nat,i<=n/\O 1=.int .i64 m/\O 2=.fn F l/\O 7=.sl 1 bc 0 n/\O 13=.int .i64 n/\O 14=.int .i64 i/\∃g',eQ 59 50 2 St.none S' bc g' n m i (fun a j=>.big (A a j))) (fun O S=>n-bT (O 14)) ?_ ?_
 ·simp -dsimp only[go_sem];exact⟨0,om,rfl,fun _=>0,eQ.init fc (fun _ _=>rfl) _ _⟩
 ·rintro O S' ⟨i,J,o,h,p,b,d,g',g⟩;by_cases f:i<n
  ·obtain⟨v,t,w⟩:=id g.outer;simp -dsimp only[go_sem,aa,o,p,b,d,f]
   repeat refine an ?_
   refine au.intro fun bd fd=>?_;have x:bc≠bd:=aR.fresh g.outer fd;have u:aL v i (.sl 2 bd 0 m) i=.sl 2 bd 0 m:=by simp[aL]
   simp -dsimp only[go_sem,f,t,x,u];have q:=g.push dc fd t (fun _=>.big 0)
   generalize y:(fun a=>if a=i then bd else g' a)=gg at q
   refine aI (fun O S'=>∃j:Nat,j<=m/\O 1=.int .i64 m/\O 2=.fn F l/\O 7=.sl 1 bc 0 n/\O 8=.int .i64 i/\O 13=.int .i64 n/\O 14=.int .i64 i/\O 26=.int .i64 m/\O 27=.int .i64 j/\eQ 59 50 2 St.none S' bc gg n m (i+1) (fun a c=>.big (if a=i/\j<=c then 0 else A a c))) (fun O S=>m-bT (O 27)) ?_ ?_
   ·simp -dsimp only[go_sem,o,h,p,b,d];refine⟨0,om,rfl,q.congr fun a c _ _=>?_⟩
    by_cases e:a=i
    ·simp[e]
    ·simp[e]
   ·clear o h p b d g q t w y;rintro O S' ⟨j,K,o,h,p,C,b,d,r,s,g⟩;by_cases k:j<m
    ·obtain⟨v,t,w⟩:=id g.outer;obtain⟨L,z,M⟩:=id (g.row i om);have D:v i=.sl 2 (gg i) 0 m:=(w i f).trans (if_pos om);simp -dsimp only[go_sem,o,h,p,b,d,r,s,k];refine aP 10 kr ?_
     simp -dsimp only[go_sem,aa,o,h,p,C,b,d,r,s,f,k,t,D,z,aM (om:j<1000000),bT]
     repeat refine an ?_
     refine⟨_,(B i j f k).pure',trivial,⟨j+1,om,rfl,(g.put dc (om:i<i+1) z j (.big (A i j))).congr fun a c _ _=>?_⟩,om⟩
     by_cases e:a=i/\c=j
     ·obtain⟨rfl,rfl⟩:=e;rw[if_pos ⟨rfl,rfl⟩,if_neg om]
     ·rw[if_neg e];congr 1;by_cases h:a=i/\j<=c
      ·rw[if_pos h,if_pos om]
      ·rw[if_neg h,if_neg om]
    ·simp -dsimp only[go_sem,o,h,p,b,d,r,s,k,aM (om:i<1000000),bT]
     exact⟨⟨i+1,om,rfl,gg,g.congr fun a c _ N=>by rw[if_neg om]⟩,om⟩
  ·obtain rfl:i=n:=om
   have E:=g.mat (A:=A) (fun _ _ _ _=>rfl);simp -dsimp only[go_sem,aa,o,p,b,d,f];exact⟨bc,rfl,g',E.1⟩
theorem BJ(n m:Nat)(A:aB)(i j:Nat)(b:i<n)(c:j<m)(a:-9223372036854775808<=A i j/\A i j<=9223372036854775807):PF 155 [.int .i64 i,.int .i64 j,.pat 1 (ax n m A)] (.big (A i j)):=by
 refine PF.of_spec (ak func155 rfl 14 ntmps155 kr sm (by simp[results155]) ?_)
 rw[aF,results155];simp -dsimp only[go_sem];refine au.intro fun bc fc=>?_
 try simp -dsimp only[go_sem,ax,aX,b,c]
 refine(fQ a.1 a.2).call ?_;simp -dsimp only[go_sem,aa];exact VR.mf rfl
theorem JY(n m k:Nat)(A:aB)(i j:Nat)(a:i<n)(b:j<m)(c:nb (A i j) k)(d:k<=1000000000):PF 212 [.int .i64 i,.int .i64 j,.pat 1 (aV n m A)] (.big (-A i j)):=by
 refine PF.of_spec (ak func212 rfl 14 ntmps212 kr sm (by simp[results212]) ?_)
 rw[aF,results212];simp -dsimp only[go_sem];refine au.intro fun bc fc=>?_
 try simp -dsimp only[go_sem,aV,bA,a,b]
 refine(rG c om).call ?_;simp -dsimp only[go_sem,aa];exact VR.mf rfl
theorem Dy(k:Nat)(z:Int)(i j:Nat)(a:nb z k)(b:k<=1000000000):PF 238 [.int .i64 i,.int .i64 j,.pat 2 (.big z)] (.big (if i=j then z else 0)):=by
 refine PF.of_spec (ak func238 rfl 12 ntmps238 kr sm (by simp[results238]) ?_)
 rw[aF,results238];simp -dsimp only[go_sem];refine au.intro fun bc fc=>?_;by_cases e:i=j
 ·subst e
  try simp -dsimp only[go_sem,show((i:Int)==i)=true by simp]
  refine(qK a om).call ?_;simp -dsimp only[go_sem,aa];exact VR.mf rfl
 ·try simp -dsimp only[go_sem,e,show((i:Int)==j)=false by simp;omega]
  exact VR.mf rfl
theorem dT.fn1{a b:AV}(h:dT S l l'):dT S [a,b,.fn f l] [a,b,.fn f l']:=⟨VA.refl _ _,VA.refl _ _,VA.fn h,trivial⟩
theorem dT.one(h:VA S x x'):dT S [x] [x']:=⟨h,trivial⟩
theorem dT.three{y y' z z':AV}(h:VA S x x')(a:VA S y y')(b:VA S z z'):dT S [x,y,z] [x',y',z']:=⟨h,a,b,trivial⟩
theorem dr{g:Nat->AV}:aL g i x i=x:=by simp[aL]
theorem nT(n m:Nat)(A:aB)(f:1<=n)(a:n<=16)(h:1<=m)(c:m<=16)(k:∀i j,i<n->j<m->-9223372036854775808<=A i j/\A i j<=9223372036854775807):Aa 93 [ax n m A] n m A:=by
 refine Aa.of ?_;refine ak func93 rfl 19 ntmps93 kr sm (by simp[results93]) ?_
 rw[aF,results93];simp -dsimp only[go_sem,aa,ax,aX];refine au.intro fun bc fc=>?_
 try simp -dsimp only[go_sem]
 refine(Cc n m A f a h c).call ?_;simp -dsimp only[go_sem,aa];refine(qe n m 155 [.pat 1 (ax n m A)] A om a c (fun i j d e=>BJ n m A i j d e (k i j d e)) _ _ (dT.fn1 (dT.one (VA.ptr (cE.new rfl) (VA.refl _ _))))).mono ?_;rintro _ S1 ⟨b,g,rfl,l⟩;simp -dsimp only[go_sem];exact⟨b,rfl,g,l.1⟩
theorem zA(n k:Nat)(z:Int)(a:n<=16)(c:nb z k)(d:k<=1000000000):MF 190 [.int .i64 n,.big z] n n (fun i j=>if i=j then z else 0):=by
 refine MF.of ?_;refine ak func190 rfl 9 ntmps190 kr sm (by simp[results190]) ?_
 rw[aF,results190];simp -dsimp only[go_sem,aa];refine au.intro fun bc fc=>?_
 try simp -dsimp only[go_sem]
 refine(qe n n 238 [.pat 2 (.big z)] (fun i j=>if i=j then z else 0) om a a (fun i j f h=>Dy k z i j c d) _ _ (dT.fn1 (dT.one (VA.ptr (cE.new rfl) (VA.refl _ _))))).mono ?_
 rintro _ S1 ⟨b,g,rfl,e⟩;simp -dsimp only[go_sem];exact⟨b,rfl,g,e.1⟩
theorem qL{f:Nat->Int}{k:Nat}:∀(t:Nat),(∀i,i<t->nb (f i) k)->nb (aq t f) (k+t)
 | 0,_=>nb.zero _
 | t+1,h=>by
  have a:=qL t (fun i c=>h i om);have b:=(h t om).mono (om:k<=k+t)
  exact a.add b
theorem Lj(n K l k:Nat)(A B:aB)(i j:Nat)(g:i<n)(h:j<l)(E:K<=16)(m:∀i j,i<n->j<K->nb (A i j) k)(o:∀i j,i<K->j<l->nb (B i j) k)(F:k<=1000000):PF 132 [.int .i64 i,.int .i64 j,.pat 1 (.int .i64 K),.pat 1 (aV n K A),.pat 1 (aV K l B)] (.big (mm K A B i j)):=by
 refine PF.of_spec (ak func132 rfl 34 ntmps132 kr sm (by simp[results132]) ?_)
 rw[aF,results132];simp -dsimp only[go_sem];refine au.intro fun bc fc=>?_
 try simp -dsimp only[go_sem]
 refine au.intro fun bd fd=>?_;have nd_c:=(ag fd).1
 try simp -dsimp only[go_sem]
 refine aI (fun O S'=>∃t:Nat,t<=K/\O 0=.int .i64 i/\O 1=.int .i64 j/\O 3=.pat 1 (aV n K A)/\O 4=.pat 1 (aV K l B)/\O 7=.ptr 2 bc 0/\O 8=.ptr 2 bd 0/\O 11=.int .i64 K/\O 12=.int .i64 t/\cE S' bc 50 2 (.big 0)/\cE S' bd 50 2 (.big (aq t fun a=>A i a*B a j))) (fun O S=>K-bT (O 12)) ?_ ?_
 ·simp -dsimp only[go_sem];exact⟨0,om,rfl,((cE.new rfl).upd (ai nd_c) _).upd (ai nd_c) _,cE.set⟩
 ·rintro O S' ⟨t,G,v,w,x,y,p,q,c,d,e,r⟩;obtain⟨H,z,I⟩:=id e;obtain⟨J,s,u⟩:=id r;by_cases b:t<K
  ·simp -dsimp only[go_sem,aa,p,q,c,d,b];refine aP 17 kr ?_
   simp -dsimp only[go_sem,aa,v,w,x,y,p,q,c,d,b,aV,bA,g,h,s,u,aM (om:t<1000000),bT]
   have C:=qL (f:=fun a=>A i a*B a j) (k:=k+k) t (fun a L=>(m i a g om).mul (o a j om h));have D:=((m i t g b).mul (o t j b h)).mono (om:k+k<=k+k+t)
   exact⟨_,(fV (m i t g b) (o t j b h) om).pure',_,(lC C D om).pure',trivial,⟨t+1,om,rfl,e.upd (ai nd_c) _,cE.set⟩,om⟩
  ·obtain rfl:t=K:=om
   simp -dsimp only[go_sem,aa,p,q,c,d,b,z,s,u];simp only[aL,if_true];exact VR.mf rfl
theorem xf(n m k:Nat)(A:aB)(p:1<=n)(f:n<=16)(h:m<=16)(l:∀i j,i<n->j<m->nb (A i j) k)(q:k<=1000000):MF 163 [aV n m A] n m (fun i j=>- A i j):=by
 refine MF.of ?_;refine ak func163 rfl 11 ntmps163 kr sm (by simp[results163]) ?_
 rw[aF,results163];have c:0<n:=om
 have a:(0:Int)<(n:Int):=om
 simp -dsimp only[go_sem,aV,bA];refine au.intro fun bc fc=>?_
 try simp -dsimp only[go_sem,aV,bA,c,a]
 refine aP 7 kr ?_
 simp -dsimp only[go_sem,aa,a];refine(qe n m 212 [.pat 1 (aV n m A)] (fun i j=>- A i j) om f h (fun i j d e=>JY n m k A i j d e (l i j d e) om) _ _ (dT.fn1 (dT.one (VA.ptr (cE.new rfl) (VA.refl _ _))))).mono ?_;rintro _ S1 ⟨b,g,rfl,o⟩;simp -dsimp only[go_sem];exact⟨b,rfl,g,o.1⟩
theorem oK(n K l k:Nat)(A B:aB)(m:1<=n)(e:n<=16)(f:1<=K)(d:K<=16)(o:1<=l)(h:l<=16)(p:∀i j,i<n->j<K->nb (A i j) k)(q:∀i j,i<K->j<l->nb (B i j) k)(r:k<=1000000):Aa 80 [aV n K A,aV K l B] n l (mm K A B):=by
 refine Aa.of ?_;refine ak func80 rfl 39 ntmps80 kr sm (by simp[results80]) ?_
 rw[aF,results80];simp -dsimp only[go_sem,aa,aV,bA];refine au.intro fun bc fc=>?_
 try simp -dsimp only[go_sem,aV,bA]
 refine au.intro fun bd fd=>?_;have nd_c:=(ag fd).1
 try simp -dsimp only[go_sem,ai nd_c]
 refine(ks n K A m e f d).call ?_;simp -dsimp only[go_sem,aa];refine au.intro fun be fe=>?_;have ne_d:=(ag fe).1;have ne_c:=(ag (ag fe).2).1
 try simp -dsimp only[go_sem,ai ne_d]
 refine(ks K l B f d o h).call ?_;simp -dsimp only[go_sem,aa,show((K:Int) != K)=false by simp,dr]
 have s:bc≠bd:=ai nd_c;have a:bc≠be:=ai ne_c;have c:bd≠be:=ai ne_d;refine(qe n l 132 [.pat 1 (.int .i64 K),.pat 1 (aV n K A),.pat 1 (aV K l B)] (mm K A B) om e h (fun i j t u=>Lj n K l k A B i j t u d p q r) _ _ (dT.fn1 (dT.three (VA.ptr cE.set (VA.refl _ _)) (VA.ptr ((((cE.new rfl).upd s _).upd a _).upd a _) (VA.refl _ _)) (VA.ptr (((cE.new rfl).upd c _).upd c _) (VA.refl _ _))))).mono ?_;rintro _ S1 ⟨b,g,rfl,v⟩;simp -dsimp only[go_sem];exact⟨b,rfl,g,v.1⟩

def LF(f:Nat)(args:List AV)(n:Nat)(v:Nat->Int):Prop:=∀S args',dT S args' args->cL f args' S (fun r S'=>∃b,r=.sl 2 b 0 n/\ic S' b n v/\cY S S'/\S b=ae)
def wX(S:St)(b:Nat):St:=fun k=>if k=b then S k else ae
theorem H4(S:St)(b:Nat):∀c X,wX S b c=some X->S c=some X:=by
 intro c X h;unfold wX at h;split at h
 ·exact h
 ·cases h
theorem ic.only(h:ic S b n v):ic (wX S b) b n v/\yz (wX S b):=by
 obtain⟨g',d,f⟩:=h;refine⟨⟨g',by simp[wX,d],f⟩,fun c X a j g=>?_⟩
 unfold wX at a;split at a
 ·rename_i e;subst e;rw[a]at d;cases d;show qd (g' j)=true;rw[f j g];rfl
 ·cases a
theorem LF.of(h:cL f args St.none (fun r S'=>∃b,r=.sl 2 b 0 n/\ic S' b n v)):LF f args n v:=fun S args' d=>by
 have g:cL f args St.none (fun r S'=>∃b,r=.sl 2 b 0 n/\ic S' b n v/\yz S'):=h.less fun r S' ⟨b,e,a⟩=>⟨wX S' b,H4 S' b,b,e,a.only.1,a.only.2⟩;refine(g.frame d ?_).mono ?_
 ·rintro r S1 ⟨b,rfl,_,i⟩;exact⟨rfl,i⟩
 ·rintro r S' ⟨S1,⟨b,rfl,a,_⟩,c,rfl⟩;exact⟨b,rfl,(aR.join c a).1,lU S S1,(aR.join c a).2⟩
theorem mP(n m k i j:Nat)(A:aB)(a b:Int)(p:i<n)(u:j<n)(N:m<=100)(q:∀c r,c<n->r<m->nb (A c r) k)(v:nb a k)(w:nb b k)(P:k<=1000000) :
  LF 269 [aV n m A,.int .i64 i,.big a,.int .i64 j,.big b] m (fun r=>a*A i r+b*A j r):=by
 refine LF.of ?_;refine ak func269 rfl 48 ntmps269 kr sm (by simp[results269]) ?_
 rw[aF,results269];simp -dsimp only[go_sem,aV,bA];refine au.intro fun bc fc=>?_
 try simp -dsimp only[go_sem,aV,bA]
 refine au.intro fun bd fd=>?_;have nd_c:=(ag fd).1;simp -dsimp only[go_sem,p]
 repeat refine an ?_
 refine au.intro fun be fe=>?_;have ne_d:=(ag fe).1;have ne_c:=(ag (ag fe).2).1;simp -dsimp only[go_sem];refine aI (fun O S'=>∃t:Nat,t<=m/\O 0=aV n m A/\O 1=.int .i64 i/\O 3=.int .i64 j/\O 7=.ptr 2 bc 0/\O 9=.ptr 2 bd 0/\O 11=.sl 2 be 0 m/\O 20=.int .i64 m/\O 21=.int .i64 t/\cE S' bc 50 2 (.big a)/\cE S' bd 50 2 (.big b)/\ic S' be m (fun r=>if r<t then a*A i r+b*A j r else 0)) (fun O S=>m-bT (O 21)) ?_ ?_
 ·simp -dsimp only[go_sem,aV,bA];exact⟨0,om,rfl,((cE.new rfl).upd (ai nd_c) _).upd (ai ne_c) _,(cE.new rfl).upd (ai ne_d) _,aR.here fun r s=>by simp⟩
 ·rintro O S' ⟨t,Q,z,B,C,D,E,f,g,h,l,o,x⟩;obtain⟨R,F,G⟩:=id l;obtain⟨T,H,I⟩:=id o;obtain⟨U,J,K⟩:=id x;by_cases d:t<m
  ·simp -dsimp only[go_sem,f,g,h,d];refine aP 22 kr ?_
   simp -dsimp only[go_sem,aa,z,B,C,D,E,f,g,h,d,aV,bA,p,u,F,G,H,I,J,aM (om:t<1000000),bT]
   have L:=v.mul (q i t p d);have M:=w.mul (q j t u d);exact⟨_,(fV v (q i t p d) om).pure',_,(fV w (q j t u d) om).pure',_,(lC L M om).pure',trivial,⟨t+1,om,rfl,l.upd (ai ne_c) _,o.upd (ai ne_d) _,aR.here fun r s=>by
    simp only[aL];by_cases e:r=t
    ·subst e;simp
    ·rw[if_neg e,K r s];by_cases y:r<t
     ·simp[y,(om:r<t+1)]
     ·simp[y,(om:¬r<t+1)]⟩,om⟩
  ·obtain rfl:t=m:=om
   simp -dsimp only[go_sem,f,g,h,d];exact⟨be,rfl,x.congr fun r s=>by simp[s]⟩
theorem sS(n m:Nat)(A:aB)(F:1<=n)(G:n<=16)(H:m<=16):MF 258 [aV n m A] m n (fun j i=>A i j):=by
 refine MF.of ?_;refine ak func258 rfl 43 ntmps258 kr sm (by simp[results258]) ?_
 rw[aF,results258];have B:0<n:=om
 have t:(0:Int)<(n:Int):=om
 simp -dsimp only[go_sem,aV,bA,t]
 repeat refine an ?_
 refine au.intro fun bc fc=>?_;simp -dsimp only[go_sem];refine aI (fun O S'=>∃j:Nat,j<=m/\O 0=aV n m A/\O 3=.sl 1 bc 0 m/\O 13=.int .i64 m/\O 14=.int .i64 j/\∃g',eQ 59 50 2 St.none S' bc g' m n j (fun a i=>.big (A i a))) (fun O S=>m-bT (O 14)) ?_ ?_
 ·simp -dsimp only[go_sem,aV,bA];exact⟨0,om,rfl,fun _=>0,eQ.init fc (fun _ _=>rfl) _ _⟩
 ·rintro O S' ⟨j,I,h,k,b,d,g',g⟩;by_cases f:j<m
  ·obtain⟨x,s,u⟩:=id g.outer;simp -dsimp only[go_sem,aa,h,k,b,d,f,aV,bA]
   repeat refine an ?_
   refine au.intro fun bd fd=>?_;have v:bc≠bd:=aR.fresh g.outer fd;simp -dsimp only[go_sem,f,s,v];have l:=g.push dc fd s (fun _=>.big 0)
   generalize w:(fun a=>if a=j then bd else g' a)=gg at l
   refine aI (fun O S'=>∃i:Nat,i<=n/\O 0=aV n m A/\O 3=.sl 1 bc 0 m/\O 4=.int .i64 j/\O 13=.int .i64 m/\O 14=.int .i64 j/\O 23=aV n m A/\O 24=.int .i64 n/\O 25=.int .i64 i/\eQ 59 50 2 St.none S' bc gg m n (j+1) (fun a c=>.big (if a=j/\i<=c then 0 else A c a))) (fun O S=>n-bT (O 25)) ?_ ?_
   ·simp -dsimp only[go_sem,h,k,b,d,aV,bA];refine⟨0,om,rfl,l.congr fun a c _ _=>?_⟩
    by_cases e:a=j
    ·simp[e]
    ·simp[e]
   ·clear h k b d g l s u w;rintro O S' ⟨i,J,h,k,C,b,d,o,p,q,g⟩;by_cases r:i<n
    ·obtain⟨x,s,u⟩:=id g.outer;obtain⟨K,y,L⟩:=id (g.row j om);have D:x j=.sl 2 (gg j) 0 n:=(u j f).trans (if_pos om);simp -dsimp only[go_sem,h,k,b,d,o,p,q,r,aV,bA];refine aP 10 kr ?_
     simp -dsimp only[go_sem,aa,h,k,C,b,d,o,p,q,f,r,s,D,y,aV,bA,aM (om:i<1000000),bT]
     refine⟨⟨i+1,om,rfl,(g.put dc (om:j<j+1) y i (.big (A i j))).congr fun a c _ _=>?_⟩,om⟩
     by_cases e:a=j/\c=i
     ·obtain⟨rfl,rfl⟩:=e;rw[if_pos ⟨rfl,rfl⟩,if_neg om]
     ·rw[if_neg e];congr 1;by_cases z:a=j/\i<=c
      ·rw[if_pos z,if_pos om]
      ·rw[if_neg z,if_neg om]
    ·simp -dsimp only[go_sem,aa,h,k,b,d,o,p,q,r,aM (om:j<1000000),bT]
     exact⟨⟨j+1,om,rfl,rfl,gg,g.congr fun a c _ M=>by rw[if_neg om]⟩,om⟩
  ·obtain rfl:j=m:=om
   have E:=g.mat (A:=fun j i=>A i j) (fun _ _ _ _=>rfl);simp -dsimp only[go_sem,aa,h,k,b,d,f];exact⟨bc,rfl,g',E.1⟩

end Go.Proofs.YtdobfmlmenaajaaGreatDoor
