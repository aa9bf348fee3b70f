/-
  Lemmas for NeighbourKeeps.
-/
import Derived.Test.YtdobfmlmenaajaaGreatDoorL28
import Derived.Test.YtdobfmlmenaajaaGreatDoorL16
import Derived.Test.YtdobfmlmenaajaaGreatDoorL23
namespace Go.Proofs.YtdobfmlmenaajaaGreatDoor
open Go.RowKit Tryz
open _root_.Classical renaming choose_spec→ef,choose→gR
open _root_.Int renaming emod_lt_of_pos→aU,emod_nonneg→a9,mul_le_mul→bW,one_mul→cF,mul_nonneg→dA,sign_eq_one_of_pos→dR,toNat_zero→qx
open _root_.List renaming getElem?_cons_succ→cS,getElem?_cons_zero→dE
open _root_.Nat renaming add_one_le_iff→aa,lt_or_ge→az,zero_add→aJ,lt_irrefl→co
open _root_.Ne renaming symm→ai
open _root_.Option renaming none→ae,map_some→dL,some→eL,map_none→ke
open _root_.Or renaming inr→aK,inl→bn
set_option maxHeartbeats 6400000
set_option maxRecDepth 4096
set_option linter.all false
attribute [local go_sem] Nat.reduceAdd Nat.reduceEqDiff Nat.reduceLeDiff Nat.reduceLT reduceCtorEq Int.ofNat_lt decide_true decide_false Int.zero_le_ofNat
attribute [local go_sem ↓] reduceIte
variable{Q:AX->Tm->St->Prop}{ops:Array Oper}{c:Code}{x y:Int}{l:List Oper}{b i j n:Nat}{g:Nat->AV}{m m' v:Nat->Int}{p:PL}{S S' S'':St}{O O0:Tm}{K:Tm->St->Prop}{G:Type}{A H L T:aB}
def lV:List Oper->List Nat
 | []=>[]
 | o::l=>(match o.dst with
  | some d=>[d]
  | ae=>[])++lV l
def kI(l:List Oper)(k:Nat):Option Nat:=(l[k]?).bind (·.dst)
def My(l:List Oper):Bool:=decide (lV l).Nodup
def stP(ops:Array Oper)(O0:Tm)(S:St)(z:List AV):List Oper->Nat->Prop
 | [],_=>True
 | o::r,i=>(∀O:Tm,(∀t,¬t∈lV ops.toList->O t=O0 t)->(∀k d,(py o).contains k=true->kI ops.toList k=some d->O d=z.getD k .any)->∀K:Tm->St->Prop,K (O.put o.dst (z.getD i .any)) S->ny ops o O S K)/\stP ops O0 S z r (i+1)
theorem ET{ops:Array Oper}{O0:Tm}{S:St}{z:List AV}:∀(l:List Oper) (i j:Nat) (o:Oper),stP ops O0 S z l i->l[j]? = some o ->
  ∀O:Tm,(∀t,¬t∈lV ops.toList->O t=O0 t)->(∀k d,(py o).contains k=true->kI ops.toList k=some d->O d=z.getD k .any)->∀K:Tm->St->Prop,K (O.put o.dst (z.getD (i+j) .any)) S->ny ops o O S K
 | [],i,j,o,_,h=>by simp at h
 | p::r,i,0,o,h,a=>by
  simp only[dE,eL.injEq]at a;subst a;exact h.1
 | p::r,i,j+1,o,h,a=>by
  rw[cS]at a;have:=ET r (i+1) j o h.2 a;rw[(om:i+1+j=i+(j+1))]at this
  exact this
theorem tT:∀{l:List Oper} {j:Nat} {o:Oper} {d:Nat},l[j]? = some o->o.dst=some d->d∈lV l
 | [],_,_,_,h,_=>by simp at h
 | p::l,0,o,d,h,a=>by
  simp only[dE,eL.injEq]at h;subst h;simp[lV,a]
 | p::l,j+1,o,d,h,a=>by
  rw[cS]at h;simp[lV,tT h a]
theorem zP:∀{l:List Oper} {i j:Nat} {d:Nat},(lV l).Nodup->kI l i=some d->kI l j=some d->i=j
 | [],i,_,_,_,h,_=>by simp[kI]at h
 | p::l,i,j,d,a,f,g=>by
  have memj:∀k,kI l k=some d->d∈lV l:=fun k b=>by
   unfold kI at b
   cases e:l[k]? with
   | none=>rw[e]at b;simp at b
   | some o=>rw[e]at b;exact tT e b
  have m:(lV l).Nodup:=by
   unfold lV at a;exact(List.nodup_append.1 a).2.1
  have c:p.dst=some d->¬d∈lV l:=fun n q=>by
   unfold lV at a;rw[n]at a;simp only[List.singleton_append,List.nodup_cons]at a;exact a.1 q
  match i,j with
  | 0,0=>rfl
  | 0,j+1=>exact(c (by simpa [kI]using f) (memj j (by simpa [kI]using g))).elim
  | i+1,0=>exact(c (by simpa [kI]using g) (memj i (by simpa [kI]using f))).elim
  | i+1,j+1 =>
   have:=zP m (i:=i) (j:=j) (d:=d) (by simpa [kI]using f) (by simpa [kI]using g)
   omega
theorem tY(z:List AV)(b:(I3 ops&&My ops.toList)=true)(s:stP ops O0 S z ops.toList 0)
  (u:∀O:Tm,(∀t,¬t∈lV ops.toList->O t=O0 t)->(∀k d,kI ops.toList k=some d->O d=z.getD k .any)->K O S):EJ ops O0 S K:=by
 rw[rY];simp only[Bool.and_eq_true]at b;have m:(lV ops.toList).Nodup:=of_decide_eq_true b.2;refine aK (aK (aK (aK ⟨fun L O S'=>S'=S/\(∀t,¬t∈lV ops.toList->O t=O0 t)/\∀k d,L k=true->kI ops.toList k=some d->O d=z.getD k .any,b.1,⟨rfl,fun _ _=>rfl,fun _ _ h=>by cases h⟩,?_,?_⟩)))
 ·rintro i o n L O S' ⟨rfl,c,f⟩ r v;have g:ops.toList[i]? = some o:=by simpa using n
  have:=ET ops.toList 0 i o s g O c (fun k d j a=>f k d (v k (by simpa using j)) a) (fun O' S''=>S''=S'/\(∀t,¬t∈lV ops.toList->O' t=O0 t)/\∀k d,(if k=i then true else L k)=true->kI ops.toList k=some d->O' d=z.getD k .any)
  rw[aJ]at this;have p:=this ?_
  ·unfold ny at p;rw[uA]at p;exact p
  ·refine⟨rfl,fun t q=>?_,fun k d j a=>?_⟩
   ·rw[Tm.put_eq]
    cases e:o.dst with
    | none=>exact c t q
    | some d =>
     simp only;rw[if_neg (fun l=>q (by subst l;exact tT g e))];exact c t q
   ·rw[Tm.put_eq];by_cases l:k=i
    ·subst l;have:o.dst=some d:=by simpa [kI,n]using a
     simp only[this,if_pos]
    ·rw[if_neg l]at j
     cases e:o.dst with
     | none=>exact f k d j a
     | some d' =>
      simp only;rw[if_neg (fun w=>by
       subst w;exact l (zP m a (by simp[kI,n,e])))]
      exact f k d j a
 ·rintro L O S' ⟨rfl,c,f⟩ r;refine u O c fun k d a=>f k d (r k ?_) a;rcases az k ops.size with h|h
  ·exact h
  ·simp[kI,Array.getElem?_eq_none h]at a
theorem KQ(h:∀K',K'=K->BQ ops l O S K'):BQ ops l O S K:=h K rfl
theorem cg(I:Tm->St->Prop)(μ:Tm->St->Nat)(a:I O S)(b:∀Q',Q'=Q->∀O S,I O S->Aw c (AX.seq (fun O' S'=>I O' S'/\μ O' S' < μ O S) Q') O S):Aw (.loop c) Q O S:=aI I μ a (b Q rfl)
theorem rA{K:AV->Prop}(a:j<=n)(h:K (.lst 2 j g)):kQ 59 (.lst 2 n g) ae (some (.int .i64 (j:Int))) ae K :=
 ⟨rfl,0,j,rfl,rfl,trivial,om,a,by simpa using h⟩
structure Ad(n k:Nat)(H:aB):Prop where
 up:∀r c,r<c->r<n->c<n+1->H r c=0
 pos:∀c,c<n->0<H c c
 rng:∀c j,c<n->j<c->0<=H c j/\H c j<H c c
 nb:∀r c,r<n->c<n+1->nb (H r c) k
theorem FW(n k:Nat)(H:aB)(h1:1<=n)(h2:n<=15)(hk:k<=1000000)(F:Ad n k H):PF 185 [aV n (n+1) H] (.tup [.lst 1 n (fun a=>.int .i64 ((a:Nat):Int)),.bool true]):=by
 refine PF.of_spec (ak func185 rfl 104 ntmps185 kr sm (by simp[results185]) ?_)
 rw[aF,results185];simp -dsimp only[go_sem,aa,aV,bA];refine(kA n (n+1) H h1 om om om).call ?_;simp -dsimp only[go_sem];refine aI (fun O S=>∃(c:Nat) (x:AV),c<=n+1/\O 0=.lst 1 n (fun i=>.lst 2 (n+1) (fun j=>.big (H i j)))/\O 4=.int .i64 n/\O 7=x/\O 20=.int .i64 ((n+1:Nat):Int)/\O 21=.int .i64 c/\cC 3 1 St.none S x (min c n) (fun a=>.int .i64 ((a:Nat):Int))) (fun O S=>n+1-bT (O 21)) ?_ ?_
 ·simp -dsimp only[go_sem];exact⟨0,om,rfl,by rw[Nat.zero_min];exact cC.nil (cY.noneS _) _⟩
 rintro O S ⟨c,x,hc,s,w,r,b,d,D⟩;by_cases u:c<n+1
 ·simp -dsimp only[go_sem,r,b,d,u];refine cg (fun O S'=>∃p:Nat,p<=c/\S'=S/\O 0=.lst 1 n (fun i=>.lst 2 (n+1) (fun j=>.big (H i j)))/\O 4=.int .i64 n/\O 7=x/\O 8=.int .i64 c/\O 9=.int .i64 p/\O 20=.int .i64 ((n+1:Nat):Int)/\O 21=.int .i64 c) (fun O S=>c-bT (O 9)) ?_ ?_
  ·simp -dsimp only[go_sem,s,w,r,b,d];exact⟨0,om,rfl⟩
  clear s w r b d;rintro Q' G O T ⟨p,hp,hTS,s,w,r,y,t,b,d⟩;subst hTS;by_cases f:p<n
  ·simp -dsimp only[go_sem,aa,s,w,y,t,f,u];refine(jp (F.nb p c f u) om).call ?_;by_cases Q:p<c
   ·simp -dsimp only[go_sem,s,w,r,y,t,b,d,f,F.up p c Q f u,Int.sign_zero,beq_self_eq_true,aM (om:p<1000000),bT]
    exact⟨⟨p+1,om,rfl⟩,om⟩
   obtain rfl:p=c:=om
   have hs:(H p p).sign=1:=dR (F.pos p f);have R:((H p p).sign==0)=false:=by rw[hs]<;>rfl
   have I:((p:Int)==(n:Int))=false:=by simp;omega
   have J:decide ((H p p).sign<0)=false:=by rw[hs]<;>rfl
   rw[(om:min p n=p)]at D
   apply qT (fun O S'=>O 0=.lst 1 n (fun i=>.lst 2 (n+1) (fun j=>.big (H i j)))/\O 4=.int .i64 n/\O 7=x/\O 8=.int .i64 p/\O 9=.int .i64 p/\O 20=.int .i64 ((n+1:Nat):Int)/\O 21=.int .i64 p/\O 76=.lst 2 p (fun j=>.big (H p j))/\O 77=.int .i64 p/\O 78=.int .i64 0/\S'=T)
   ·intro key;simp -dsimp only[go_sem,s,w,r,y,t,b,d,f,R];rw[G];rcases id D.2 with⟨U,L⟩|⟨c0,_,L,hL⟩
    ·have M:((0:Int) != (p:Int))=false:=by rw[U];simp
     have z:decide ((0:Int)<(p:Int))=false:=by rw[U];simp
     simp -dsimp only[go_sem,aa,s,w,r,y,t,b,d,f,u,I,M,z,L];refine(jp (F.nb p p f u) om).call ?_;simp -dsimp only[go_sem,s,r,y,t,f,M,z,J,dL,ke];refine rA om ?_;simp -dsimp only[go_sem];show Aw (.loop _) _ _ _;refine key _ _ ?_;simp -dsimp only[go_sem,s,w,r,y,t,b,d,L]
    ·obtain⟨gl,ul,vl⟩:=hL;rcases Nat.eq_zero_or_pos p with h0|h0
     ·have M:((0:Int) != (p:Int))=false:=by rw[h0];simp
      have z:decide ((0:Int)<(p:Int))=false:=by rw[h0];simp
      simp -dsimp only[go_sem,aa,s,w,r,y,t,b,d,f,u,I,z,L,bne_self_eq_false];refine(jp (F.nb p p f u) om).call ?_;simp -dsimp only[go_sem,s,r,y,t,f,z,J,dL,ke];refine rA om ?_;simp -dsimp only[go_sem];show Aw (.loop _) _ _ _;refine key _ _ ?_;simp -dsimp only[go_sem,s,w,r,y,t,b,d,L]
     obtain⟨q,hq⟩:∃q,p=q+1:=⟨p-1,om⟩
     have z:decide ((0:Int)<(p:Int))=true:=by simp;omega
     have hw:IntKind.i64.wrap ((p:Int)-1)=(q:Int):=dV om om;have V:q<p:=om
     have hg:gl q=.int .i64 (q:Int):=vl q V;have W:decide ((p:Int)<=(q:Int))=false:=by simp;omega
     simp -dsimp only[go_sem,aa,s,w,r,y,t,b,d,f,u,I,z,W,hw,V,hg,ul,L,bne_self_eq_false];refine(jp (F.nb p p f u) om).call ?_;simp -dsimp only[go_sem,s,r,y,t,f,z,W,hw,hg,J,dL,ke];refine rA om ?_;simp -dsimp only[go_sem];show Aw (.loop _) _ _ _;refine key _ _ ?_;simp -dsimp only[go_sem,s,w,r,y,t,b,d,L]
   clear s w r y t b d R I J hs Q;rintro O _ ⟨s,w,r,y,t,b,d,A,B,C,rfl⟩;refine cg (fun O S=>∃j:Nat,j<=p/\O 0=.lst 1 n (fun i=>.lst 2 (n+1) (fun j=>.big (H i j)))/\O 4=.int .i64 n/\O 7=x/\O 8=.int .i64 p/\O 9=.int .i64 p/\O 20=.int .i64 ((n+1:Nat):Int)/\O 21=.int .i64 p/\O 76=.lst 2 p (fun j=>.big (H p j))/\O 77=.int .i64 p/\O 78=.int .i64 j/\cC 3 1 St.none S x p (fun a=>.int .i64 ((a:Nat):Int))) (fun O S=>p-bT (O 78)) ?_ ?_
   ·simp -dsimp only[go_sem,s,w,r,y,t,b,d,A,B,C];exact⟨0,om,rfl,D⟩
   clear s w r y t b d A B C D;rintro Q' G O S ⟨j,hj,s,w,r,y,t,b,d,A,B,C,D⟩;by_cases N:j<p
   ·obtain⟨q1,q2⟩:=F.rng p j f N;have hs1:decide ((H p j).sign<0)=false:=by
     rcases Int.lt_or_eq_of_le q1 with h|h
     ·rw[dR h];rfl
     ·rw[<-h];rfl
    have hcm:ka (H p j) (H p p)=-1:=by simp[ka,q2]
    simp -dsimp only[go_sem,A,B,C,N];refine au.intro fun E X=>?_
    try simp -dsimp only[go_sem]
    have Y:=((D.upd (by rfl) (D.fresh X) ⟨50,2,1,fun _=>AV.big 0⟩).upd (by rfl) (D.fresh X) ⟨50,2,1,aL (fun _=>AV.big 0) 0 (.big (H p j))⟩)
    obtain⟨S5,hS5,Z⟩:∃S5,S5=(S.upd E ⟨50,2,1,fun _=>AV.big 0⟩).upd E ⟨50,2,1,aL (fun _=>AV.big 0) 0 (.big (H p j))⟩/\S5 E=some ⟨50,2,1,aL (fun _=>AV.big 0) 0 (.big (H p j))⟩:=⟨_,rfl,bR⟩;rw[<-hS5]at Y ⊢;have r0:PF 191 [.big (H p j)] (.int .i64 (H p j).sign):=jp (F.nb p j f om) om;have r1:PF 159 [.big (H p j),.big (H p p)] (.int .i64 (-1)):=hcm▸pZ (F.nb p j f om) (F.nb p p f om) om;refine tY [.big (H p j),.int .i64 (H p j).sign,.bool false,.bool false,.big (H p j),.lst 1 n (fun i=>.lst 2 (n+1) (fun j=>.big (H i j))),.int .i64 p,.pat 1 (.lst 2 (n+1) (fun j=>.big (H p j))),.lst 2 (n+1) (fun j=>.big (H p j)),.int .i64 p,.pat 2 (.big (H p p)),.big (H p p),.int .i64 (-1),.bool false,.bool false] kr ?_ ?_
    ·refine⟨?_,?_,?_,?_,?_,?_,?_,?_,?_,?_,?_,?_,?_,?_,?_,trivial⟩
     ·intro O1 m l K o;have P:O1 11=.ptr 2 E 0:=(m 11 dc).trans (by simp -dsimp only[go_sem])
      unfold ny;simp -dsimp only[go_sem,aa,P,Z,dr];exact o
     ·intro O1 m l K o;have x82:O1 82=.big (H p j):=l 0 82 kr rfl
      unfold ny;simp -dsimp only[go_sem,aa,x82];refine r0.call ?_;exact o
     ·intro O1 m l K o;have x83:O1 83=.int .i64 (H p j).sign:=l 1 83 kr rfl
      unfold ny;simp -dsimp only[go_sem,x83,hs1];exact o
     ·intro O1 m l K o;have x84:O1 84=.bool false:=l 2 84 kr rfl
      unfold ny;simp -dsimp only[go_sem,x84];exact o
     ·intro O1 m l K o;have P:O1 11=.ptr 2 E 0:=(m 11 dc).trans (by simp -dsimp only[go_sem])
      have g:O1 85=.bool false:=l 3 85 kr rfl
      unfold ny;simp -dsimp only[go_sem,aa,P,g,Z,dr];exact o
     ·intro O1 m l K o;have x0:O1 0=.lst 1 n (fun i=>.lst 2 (n+1) (fun j=>.big (H i j))):=(m 0 dc).trans (by simp -dsimp only[go_sem,s])
      have g:O1 85=.bool false:=l 3 85 kr rfl
      unfold ny;simp -dsimp only[go_sem,x0,g];exact o
     ·intro O1 m l K o;have x9:O1 9=.int .i64 p:=(m 9 dc).trans (by simp -dsimp only[go_sem,t])
      have g:O1 85=.bool false:=l 3 85 kr rfl
      unfold ny;simp -dsimp only[go_sem,x9,g];exact o
     ·intro O1 m l K o;have g:O1 85=.bool false:=l 3 85 kr rfl
      have x87:O1 87=.lst 1 n (fun i=>.lst 2 (n+1) (fun j=>.big (H i j))):=l 5 87 kr rfl
      have x88:O1 88=.int .i64 p:=l 6 88 kr rfl
      unfold ny;simp -dsimp only[go_sem,g,x87,x88,f];exact o
     ·intro O1 m l K o;have g:O1 85=.bool false:=l 3 85 kr rfl
      have x89:O1 89=.pat 1 (.lst 2 (n+1) (fun j=>.big (H p j))):=l 7 89 kr rfl
      unfold ny;simp -dsimp only[go_sem,g,x89];exact o
     ·intro O1 m l K o;have x8:O1 8=.int .i64 p:=(m 8 dc).trans (by simp -dsimp only[go_sem,y])
      have g:O1 85=.bool false:=l 3 85 kr rfl
      unfold ny;simp -dsimp only[go_sem,x8,g];exact o
     ·intro O1 m l K o;have g:O1 85=.bool false:=l 3 85 kr rfl
      have x90:O1 90=.lst 2 (n+1) (fun j=>.big (H p j)):=l 8 90 kr rfl
      have x91:O1 91=.int .i64 p:=l 9 91 kr rfl
      unfold ny;simp -dsimp only[go_sem,g,x90,x91,(om:p<n+1)]
      exact o
     ·intro O1 m l K o;have g:O1 85=.bool false:=l 3 85 kr rfl
      have x92:O1 92=.pat 2 (.big (H p p)):=l 10 92 kr rfl
      unfold ny;simp -dsimp only[go_sem,g,x92];exact o
     ·intro O1 m l K o;have g:O1 85=.bool false:=l 3 85 kr rfl
      have x86:O1 86=.big (H p j):=l 4 86 kr rfl
      have x93:O1 93=.big (H p p):=l 11 93 kr rfl
      unfold ny;simp -dsimp only[go_sem,aa,g,x86,x93];refine r1.call ?_;exact o
     ·intro O1 m l K o;have g:O1 85=.bool false:=l 3 85 kr rfl
      have x94:O1 94=.int .i64 (-1):=l 12 94 kr rfl
      unfold ny;simp -dsimp only[go_sem,g,x94,show decide ((0:Int)<=-1)=false by rfl]
      exact o
     ·intro O1 m l K o;have g:O1 85=.bool false:=l 3 85 kr rfl
      have x95:O1 95=.bool false:=l 13 95 kr rfl
      unfold ny;simp -dsimp only[go_sem,g,x95];exact o
    ·intro O1 m l;have x96:O1 96=.bool false:=l 14 96 rfl;have y0:O1 0=.lst 1 n (fun i=>.lst 2 (n+1) (fun j=>.big (H i j))):=(m 0 dc).trans (by simp -dsimp only[go_sem,s])
     have y4:O1 4=.int .i64 n:=(m 4 dc).trans (by simp -dsimp only[go_sem,w])
     have y7:O1 7=x:=(m 7 dc).trans (by simp -dsimp only[go_sem,r])
     have y8:O1 8=.int .i64 p:=(m 8 dc).trans (by simp -dsimp only[go_sem,y])
     have y9:O1 9=.int .i64 p:=(m 9 dc).trans (by simp -dsimp only[go_sem,t])
     have y20:O1 20=.int .i64 ((n+1:Nat):Int):=(m 20 dc).trans (by simp -dsimp only[go_sem,b])
     have y21:O1 21=.int .i64 p:=(m 21 dc).trans (by simp -dsimp only[go_sem,d])
     have y76:O1 76=.lst 2 p (fun j=>.big (H p j)):=(m 76 dc).trans (by simp -dsimp only[go_sem,A])
     have y77:O1 77=.int .i64 p:=(m 77 dc).trans (by simp -dsimp only[go_sem,B])
     have y78:O1 78=.int .i64 j:=(m 78 dc).trans (by simp -dsimp only[go_sem,C])
     simp -dsimp only[go_sem,x96,y0,y4,y7,y8,y9,y20,y21,y76,y77,y78,aM (om:j<1000000),bT]
     exact⟨⟨j+1,om,rfl,Y⟩,om⟩
   ·obtain rfl:j=p:=om
    simp -dsimp only[go_sem,A,B,C,N];rw[G];simp -dsimp only[go_sem,r,t];refine au.intro fun b100 f100=>?_;have hxb:=D.fresh f100;have hX2:=D.upd (by rfl) hxb ⟨3,1,1,fun a=>[AV.int .i64 j].getD a .any⟩
    try simp -dsimp only[go_sem,r,t]
    refine cC.app3 (v:=.int .i64 j) hX2 om (by simp[dN]) (aK ⟨_,_,_,rfl,bR,rfl,fun h=>hxb _ h rfl⟩) ?_
    intro c S6 hX' _ _;simp -dsimp only[go_sem,s,w,r,t,b,d,aM (om:j<1000000),bT]
    refine⟨⟨j+1,om,rfl,?_⟩,om⟩
    rw[(om:min (j+1) n=j+1)]
    exact hX'.congr fun a _=>by
     by_cases e:a=j
     ·rw[if_pos e,e]
     ·rw[if_neg e]
  ·obtain rfl:p=n:=om
   obtain rfl:c=p:=om
   simp -dsimp only[go_sem,s,w,r,y,t,b,d,f];rw[G];rw[IU,if_pos rfl,wL,I0,I0,MM];refine KQ fun K' hK'=>?_;simp -dsimp only[go_sem,w,t];rw[hK',wL,Em,show ev _ (.tmp 42)=AV.bool true by simp -dsimp only[go_sem,beq_self_eq_true],cd_t]
   simp -dsimp only[go_sem,s,w,r,b,d,aM (om:c<1000000),bT]
   refine⟨⟨c+1,om,rfl,?_⟩,om⟩
   rw[(om:min (c+1) c=min c c)]
   exact D
 obtain rfl:c=n+1:=om
 simp -dsimp only[go_sem,r,b,d,u];rcases D.2 with⟨h,_⟩|⟨c0,_,rfl,hL⟩
 ·omega
 rw[(om:min (n+1) n=n)]at hL ⊢
 exact VR.tup2 (VR.sl hL om (fun a l=>by rw[aJ];exact VR.mf rfl)) (VR.mf rfl)

theorem A9{p:Nat->Prop}(h:∃n,p n):∃n,p n/\∀m,p m->n<=m:=by
 obtain⟨n,c⟩:=h
 induction n using Nat.strongRecOn with
 | _ n ih =>
  by_cases b:∃m,m<n/\p m
  ·obtain⟨m,a,d⟩:=b;exact ih m a d
  ·exact⟨n,c,fun m h=>by
    rcases az m n with a|a
    ·exact absurd ⟨m,a,h⟩ b
    ·exact a⟩
theorem C0(I:G->Tm->St->Prop)(m:G->Nat)(l:∃g,I g O S)
  (n:∀Q',Q'=Q->∀g O S,I g O S->∀R:Tm->St->Prop,(∀g' O' S',I g' O' S'->m g'<m g->R O' S')->Aw c (AX.seq R Q') O S):Aw (.loop c) Q O S:=by
 classical
 have d:∀O S,(∃g,I g O S)->∃k,(∃g,I g O S/\m g=k)/\∀j,(∃g,I g O S/\m g=j)->k<=j:=fun O S ⟨g,e⟩=>A9 ⟨m g,g,e,rfl⟩;refine aI (fun O S=>∃g,I g O S) (fun O S=>if h:∃g,I g O S then gR (d O S h)else 0) l ?_
 intro O S i;obtain⟨⟨g,e,o⟩,_⟩:=ef (d O S i);refine n Q rfl g O S e _ ?_;intro g' O' S' b f;have a:∃g,I g O' S':=⟨g',b⟩;refine⟨a,?_⟩;rw[dif_pos i,dif_pos a,<-o];exact Nat.lt_of_le_of_lt ((ef (d O' S' a)).2 _ ⟨g',b,rfl⟩) f
theorem Ip{K:AV->Prop}:yU 195 (.agg [.big x,.big y]) (.int .i64 0) K=K (.big x):=by
 refine propext ⟨fun h=>?_,fun h=>bn ⟨rfl,_,_,rfl,trivial,trivial,bn rfl,by rwa [if_pos rfl]⟩⟩
 rcases h with⟨_,p,q,e,_,_,_,a⟩|⟨h,_⟩
 ·cases e;rwa [if_pos rfl]at a
 ·exact absurd h sm
theorem Io{K:AV->Prop}:yU 195 (.agg [.big x,.big y]) (.int .i64 1) K=K (.big y):=by
 refine propext ⟨fun h=>?_,fun h=>bn ⟨rfl,_,_,rfl,trivial,trivial,aK rfl,by rwa [if_neg dc]⟩⟩
 rcases h with⟨_,p,q,e,_,_,_,a⟩|⟨h,_⟩
 ·cases e;rwa [if_neg dc]at a
 ·exact absurd h sm
theorem ig(P:Tm->St->Prop)(a:P O S)(h:∀O T,P O T->EJ ops O T K):EJ ops O S K:=h O S a
theorem KJ{a b:Int}:decide (ka a b<0)=decide (a<b):=by
 unfold ka;split
 ·simp[*]
 ·split<;>simp[*]
def qZ(S:St)(b:Nat)(p:PL):Prop:=aR S b 197 2 7 (fun j=>[AV.big p.a,.big p.b,.big p.c,.big p.f0,.big p.f1,.big p.s0,.big p.s1].getD j .any)
theorem qZ.ext(h:qZ S b p)(a:cY S S'):qZ S' b p:=a.has h
theorem wv(S:St)(b:Nat)(p:PL)(k:Nat)(f:qZ S b p)(i:nb p.a k)(j:nb p.c k)(d:3<=k)(x:k<=1000000):cL 208 [.ptr 2 b 0] S (fun r S'=>r=.bool (decide (4*p.c<3*p.a))/\cY S S'):=by
 refine ak func208 rfl 21 ntmps208 kr sm (by simp[results208]) ?_
 rw[aF,results208];simp -dsimp only[go_sem,aa];refine(fQ (a:=4) om om).call ?_;simp -dsimp only[go_sem,aa];refine(fQ (a:=3) om om).call ?_;simp -dsimp only[go_sem];refine au.intro fun n h=>?_
 try simp -dsimp only[go_sem]
 refine au.intro fun o e=>?_;have n4_3:=(ag e).1;obtain⟨g,u,v⟩:=id f;have q:b≠n:=aR.fresh f h;have s:b≠o:=aR.fresh f (ag e).2;have t:g 0=.big p.a:=v 0 om;have w:g 2=.big p.c:=v 2 om;simp -dsimp only[go_sem,aa,nn n4_3];refine aP 15 kr ?_
 simp -dsimp only[go_sem,aa,ai n4_3,q,s,u,t,w,dr];have l:nb (4:Int) k:=(show nb (4:Int) 3 by unfold nb;decide).mono d
 have m:nb (3:Int) k:=(show nb (3:Int) 3 by unfold nb;decide).mono d
 refine⟨_,(fV l j om).pure',_,(fV m i om).pure',_,(pZ (l.mul j) (m.mul i) om).pure',?_⟩;simp -dsimp only[go_sem,KJ];exact((((cY.refl S).upd h _).upd (ag e).2 _).upd h _).upd (ag e).2 _
theorem FV{m:Nat}(h:¬4*p.c<3*p.a):qX m p=p:=by
 cases m with
 | zero=>rfl
 | succ m=>unfold qX;rw[if_neg h]
theorem qZ.get(h:qZ S b p):∃g,S b=some ⟨197,2,7,g⟩/\g 0=.big p.a/\g 1=.big p.b/\g 2=.big p.c/\g 3=.big p.f0/\g 4=.big p.f1/\g 5=.big p.s0/\g 6=.big p.s1:=by
 obtain⟨g,u,v⟩:=h;exact⟨g,u,v 0 om,v 1 om,v 2 om,v 3 om,v 4 om,v 5 om,v 6 om⟩
theorem qZ.of(u:S b=some ⟨197,2,7,g⟩)(d:g 0=.big p.a)(e:g 1=.big p.b)(f:g 2=.big p.c)(h:g 3=.big p.f0)(j:g 4=.big p.f1)(k:g 5=.big p.s0)(l:g 6=.big p.s1):qZ S b p:=⟨g,u,fun i m=>by
 match i,m with
 | 0,_=>exact d
 | 1,_=>exact e
 | 2,_=>exact f
 | 3,_=>exact h
 | 4,_=>exact j
 | 5,_=>exact k
 | 6,_=>exact l⟩
theorem qZ.here(d:g 0=.big p.a)(e:g 1=.big p.b)(f:g 2=.big p.c)(h:g 3=.big p.f0)(i:g 4=.big p.f1)(j:g 5=.big p.s0)(k:g 6=.big p.s1):qZ (S.upd b ⟨197,2,7,g⟩) b p:=qZ.of bR d e f h i j k
theorem qZ.fresh{c:Nat}(h:qZ S b p)(a:S c=ae):b≠c:=aR.fresh h a
def Dc(b:Nat)(S S':St):Prop:=∀d X,d≠b->S d=some X->S' d=some X
theorem Dc.refl(b:Nat)(S:St):Dc b S S:=fun _ _ _ h=>h
theorem Dc.ext(h:Dc b S S')(k:cY S' S''):Dc b S S'':=fun d X a c=>k d X (h d X a c)
theorem Dc.upd(h:Dc b S S')(X:dH):Dc b S (S'.upd b X):=fun d Y a c=>by rw[aH a];exact h d Y a c
theorem DF{k e:Nat}(hA:Pd A n)(hk:0<k)(hn:k<n)(h0:det k A<=2^e)(h1:ca A (k-1) 1 1<=2^e)(hd:det (k-1) A*det (k+1) A+1<=2^e)(he:e<=100000)(S:St)(bp Y:Nat)(P:PL)(L:yj A n k e P)(M:qZ S bp P)(Z:P.a<=Y) :
  cL 248 [.ptr 2 bp 0] S (fun _ S'=>qZ S' bp (qX Y P)/\Dc bp S S'):=by
 refine gL func248 rfl 100 ntmps248 kr sm ?_
 rw[aF,results248];simp -dsimp only[go_sem];refine C0 (G:=Nat×PL) (fun x O S'=>O 0=.ptr 2 bp 0/\yj A n k e x.2/\x.2.a<=x.1/\qX x.1 x.2=qX Y P/\qZ S' bp x.2/\Dc bp S S') (fun x=>x.1) ?_ ?_
 ·exact⟨(Y,P),by simp -dsimp only[go_sem],L,Z,rfl,M,Dc.refl _ _⟩
 clear L M Z;rintro Q' hQ' ⟨m,p⟩ O S' ⟨y,L,Z,hp,M,hF⟩ R hR;dsimp only at L Z hp M hR;obtain⟨z1,z2,z3,z4,z5,z6,z7⟩:=L.bits hA hk hn h0 h1 (om:e<e+3)
 simp -dsimp only[go_sem,aa,y];refine(wv S' bp p (e+3) M z1 z3 om om).mono ?_;rintro _ S1 ⟨rfl,hE⟩;have d:=M.ext hE;have f:=hF.ext hE;by_cases V:4*p.c<3*p.a
 ·obtain⟨g,u,l,o,t,r,s,v,w⟩:=d.get;simp -dsimp only[go_sem,y,V];refine eR 12 kr ?_
  simp -dsimp only[go_sem,aa,y,u,l,t];refine lM (fun T=>qZ T bp ⟨p.c,p.b,p.a,p.f0,p.f1,p.s0,p.s1⟩/\Dc bp S T) ⟨qZ.here (by simp[aL]) (by simp[aL,o]) (by simp[aL]) (by simp[aL,r]) (by simp[aL,s]) (by simp[aL,v]) (by simp[aL,w]),(f.upd _).upd _⟩ ?_
  clear d f u l o t r s v w hE M hF;clear g S1 S';rintro S1 ⟨d,f⟩;obtain⟨g,u,l,o,t,r,s,v,w⟩:=d.get;dsimp only at l o t r s v w;refine eR 12 kr ?_
  simp -dsimp only[go_sem,aa,y,u,r,s,v,w,dD,List.forall_mem_cons,List.not_mem_nil,false_implies,implies_true];refine lM (fun T=>qZ T bp ⟨p.c,p.b,p.a,p.s0,p.s1,p.f0,p.f1⟩/\Dc bp S T) ⟨qZ.here (by simp[eJ,l]) (by simp[eJ,o]) (by simp[eJ,t]) (by simp[eJ]) (by simp[eJ]) (by simp[eJ]) (by simp[eJ]),(f.upd _).upd _⟩ ?_
  clear d f u l o t r s v w;clear g S1;rintro S1 ⟨d,f⟩;obtain⟨g,u,l,o,t,r,s,v,w⟩:=d.get;dsimp only at l o t r s v w;refine aP 10 kr ?_
  simp -dsimp only[go_sem,aa,y,u,l,o];obtain⟨hc0,ha0⟩:0<p.a/\0<p.c:=L.pos hk hn;refine⟨_,(rH p.b p.c (e+3) z2 z3 om om).pure',?_⟩;have B:nb (fN p.b p.c) (e+6):=by
   unfold fN;refine nb.of_le (sN om) ?_;exact(((show nb p.b (e+3)from z2).add z2).add (show nb p.c (e+4)from nb.mono (k:=e+3) z3 om)).mono om
  rw[show(p.b+p.b+p.c)/(p.c+p.c)=fN p.b p.c from rfl];generalize hq:fN p.b p.c=q at *;refine au.intro fun E Q=>?_;have U:=d.fresh Q;simp -dsimp only[go_sem];refine ig (fun O T=>O 0=.ptr 2 bp 0/\O 2=.ptr 2 E 0/\qZ T bp ⟨p.c,p.b,p.a,p.s0,p.s1,p.f0,p.f1⟩/\cE T E 50 2 (.big q)/\Dc bp S T) ⟨by simp -dsimp only[go_sem,y],by simp -dsimp only[go_sem],d.ext (((cY.refl S1).upd Q _).upd Q _),cE.set,f.ext (((cY.refl S1).upd Q _).upd Q _)⟩ ?_
  clear d f u l o t r s v w y Q;clear g S1 O;rintro O S1 ⟨y,I,d,j,f⟩;obtain⟨g,u,l,o,t,r,s,v,w⟩:=d.get;dsimp only at l o t r s v w;obtain⟨N,D,F⟩:=j;refine aP 12 kr ?_
  simp -dsimp only[go_sem,aa,y,I,u,l,o,D,F];have m1:=B.mul (show nb p.c (e+6)from nb.mono (k:=e+3) z3 om);have m2:=(show nb p.b (e+6+(e+6))from nb.mono (k:=e+3) z2 om).sub m1;refine⟨_,(fV B (show nb p.c (e+6)from nb.mono (k:=e+3) z3 om) om).pure',_,(me (show nb p.b (e+6+(e+6))from nb.mono (k:=e+3) z2 om) m1 om).pure',?_⟩;refine au.intro fun b3 J=>?_;have n3:=d.fresh J;have n23:E≠b3:=cE.fresh ⟨N,D,F⟩ J;simp -dsimp only[go_sem];generalize hb':p.b-q*p.c=b' at *;refine ig (fun O T=>O 0=.ptr 2 bp 0/\O 2=.ptr 2 E 0/\O 3=.ptr 2 b3 0/\qZ T bp ⟨p.c,p.b,p.a,p.s0,p.s1,p.f0,p.f1⟩/\cE T E 50 2 (.big q)/\cE T b3 50 2 (.big b')/\Dc bp S T) ⟨by simp -dsimp only[go_sem,y],by simp -dsimp only[go_sem,I],by simp -dsimp only[go_sem],d.ext (((cY.refl S1).upd J _).upd J _),cE.ext ⟨N,D,F⟩ (((cY.refl S1).upd J _).upd J _),cE.set,f.ext (((cY.refl S1).upd J _).upd J _)⟩ ?_
  clear d f u l o t r s v w y I J D F;clear g S1 O N;rintro O S1 ⟨y,I,e3,d,j,W,f⟩;obtain⟨g,u,l,o,t,r,s,v,w⟩:=d.get;dsimp only at l o t r s v w;obtain⟨N,D,F⟩:=id j;obtain⟨g3,X,y3⟩:=id W;have U:E≠bp:=fun h=>by rw[h,u]at D;cases D
  have n3:b3≠bp:=fun h=>by rw[h,u]at X;cases X
  refine aP 16 kr ?_
  simp -dsimp only[go_sem,aa,y,I,e3,u,o,t,D,F,X,y3];have k1:nb (p.b+b') (2*e+14):=((show nb p.b (2*e+13)from nb.mono (k:=e+3) z2 om).add (m2.mono om));have k2:=(B.mono (om:e+6<=2*e+14)).mul k1
  refine⟨_,(lC (show nb p.b (2*e+13)from nb.mono (k:=e+3) z2 om) (m2.mono om) om).pure',_,(fV (B.mono (om:e+6<=2*e+14)) k1 om).pure',_,(me (show nb p.a (2*e+14+(2*e+14))from nb.mono (k:=e+3) z1 om) k2 om).pure',?_⟩
  simp -dsimp only[go_sem,r,s,X,y3,n3,dD,aL];generalize hc':p.a-q*(p.b+b')=c' at *;refine cg (fun O T=>∃i:Nat,i<=2/\O 0=.ptr 2 bp 0/\O 2=.ptr 2 E 0/\O 79=.agg [.big p.s0,.big p.s1]/\O 80=.int .i64 i/\qZ T bp ⟨p.c,b',c',p.s0,p.s1,if 0<i then p.f0-q*p.s0 else p.f0,if 1<i then p.f1-q*p.s1 else p.f1⟩/\cE T E 50 2 (.big q)/\Dc bp S T) (fun O T=>2-bT (O 80)) ?_ ?_
  ·simp -dsimp only[go_sem,y,I];exact⟨0,om,rfl,qZ.here (by simp[aL,l]) (by simp[aL]) (by simp[aL]) (by simp[aL,r]) (by simp[aL,s]) (by simp[aL,v]) (by simp[aL,w]),(j.upd U _).upd U _,(f.upd _).upd _⟩
  clear d j W f u l o t r s v w y I e3 D F X y3 k1 k2;clear g S1 O N g3;rintro Q2 hQ2 O T ⟨i,hi,y,I,H,z,d,j,f⟩;have b2p:E≠bp:=U;by_cases hi2:i<2
  ·rcases (om:i=0∨i=1)with rfl|rfl
   ·obtain⟨g,u,l,o,t,r,s,v,w⟩:=d.get;simp only[co,Nat.not_lt_zero,if_false]at l o t r s v w;obtain⟨N,D,F⟩:=id j;rw[show((0:Nat):Int)=0 from rfl]at z;simp -dsimp only[go_sem,H,z,Ip,show decide ((0:Int)<2)=true from rfl];refine au.intro fun b5 K=>?_;have n5:=d.fresh K;have C:E≠b5:=j.fresh K;simp -dsimp only[go_sem,aa,z];refine aP 15 kr ?_
    simp -dsimp only[go_sem,aa,y,I,H,z,xF,u,v,D,F,n5,C,qx,aL]
    repeat refine an ?_
    have j1:=B.mul (show nb p.s0 (e+6)from nb.mono (k:=e+3) z6 om);refine⟨_,(fV B (show nb p.s0 (e+6)from nb.mono (k:=e+3) z6 om) om).pure',_,(me (show nb p.f0 (e+6+(e+6))from nb.mono (k:=e+3) z4 om) j1 om).pure',?_⟩;simp -dsimp only[go_sem,qx,Int.toNat_one,show IntKind.i64.wrap ((0:Int)+1)=1 from by decide,Nat.sub_zero,bT]
    repeat refine an ?_
    exact⟨⟨1,om,rfl,qZ.here (by simp[aL,l]) (by simp[aL,o]) (by simp[aL,t]) (by simp[aL,r]) (by simp[aL,s]) (by simp[aL]) (by simp[aL,w]),((j.upd C _).upd C _).upd U _,(f.ext (((cY.refl T).upd K _).upd K _)).upd _⟩,om⟩
   ·obtain⟨g,u,l,o,t,r,s,v,w⟩:=d.get;simp only[co,if_false,Nat.zero_lt_one,if_true]at l o t r s v w;obtain⟨N,D,F⟩:=id j;rw[show((1:Nat):Int)=1 from rfl]at z;simp -dsimp only[go_sem,H,z,Io,show decide ((1:Int)<2)=true from rfl];refine au.intro fun b5 K=>?_;have n5:=d.fresh K;have C:E≠b5:=j.fresh K;simp -dsimp only[go_sem,aa,z];refine aP 15 kr ?_
    simp -dsimp only[go_sem,aa,y,I,H,z,xF,u,w,D,F,n5,C,Int.toNat_one,aL]
    repeat refine an ?_
    have j1:=B.mul (show nb p.s1 (e+6)from nb.mono (k:=e+3) z7 om);refine⟨_,(fV B (show nb p.s1 (e+6)from nb.mono (k:=e+3) z7 om) om).pure',_,(me (show nb p.f1 (e+6+(e+6))from nb.mono (k:=e+3) z5 om) j1 om).pure',?_⟩;simp -dsimp only[go_sem,Int.toNat_one,show IntKind.i64.wrap ((1:Int)+1)=2 from by decide,bT]
    repeat refine an ?_
    exact⟨⟨2,om,rfl,qZ.here (by simp[aL,l]) (by simp[aL,o]) (by simp[aL,t]) (by simp[aL,r]) (by simp[aL,s]) (by simp[aL,v]) (by simp[aL]),((j.upd C _).upd C _).upd U _,(f.ext (((cY.refl T).upd K _).upd K _)).upd _⟩,om⟩
  ·obtain rfl:i=2:=om
   simp -dsimp only[go_sem,H,z,show ¬((2:Nat):Int)<2 by decide]
   rw[hQ2];simp -dsimp only[go_sem];obtain⟨m',rfl⟩:∃m',m=m'+1:=⟨m-1,om⟩
   have enx:(⟨p.c,b',c',p.s0,p.s1,p.f0-q*p.s0,p.f1-q*p.s1⟩:PL)=p.nx:=by
    unfold PL.nx;rw[hq,hb',hc']
   obtain⟨w1,w2⟩:=L.nx hA hk hn hd V;refine hR (m',p.nx) _ _ ⟨by simp -dsimp only[go_sem,y],w1,by show p.nx.a<=(m':Int);omega,?_,?_,f⟩ (by show m'<m'+1;omega)
   ·rw[<-hp];show _=qX (m'+1) p;rw[qX,if_pos V]
   ·rw[<-enx];simpa using d
 ·simp -dsimp only[go_sem,y,V];rw[hQ'];simp -dsimp only[go_sem];rw[<-hp,FV V];exact⟨d,f⟩

structure oC where
 bs:Nat
 bm:Nat
 bl:Nat
 bb:Nat
 gl:Nat->Nat
 gb:Nat->Nat
variable{M:oC}
structure kR(S:St)(M:oC)(n:Nat)(m:Nat->Int)(L T:aB):Prop where
 cell:aR S M.bs 160 1 4 (fun j=>[AV.sl 2 M.bm 0 (n+1),.sl 1 M.bl 0 n,.sl 1 M.bb 0 n,.mfn 206 [.ptr 1 M.bs 0]].getD j .any)
 mino:ic S M.bm (n+1) m
 lamo:aR S M.bl 59 1 n (fun i=>.sl 2 (M.gl i) 0 i)
 lamr:∀i,i<n->ic S (M.gl i) i (L i)
 bas:dd S M.bb M.gb n n T
 n1:∀i,i<n->M.gl i≠M.bm
 n2:∀i,i<n->M.gb i≠M.bm
 n3:∀i j,i<n->j<n->M.gl i≠M.gb j
 n4:∀i j,i<n->j<n->M.gl i=M.gl j->i=j
theorem kR.ext(h:kR S M n m L T)(a:cY S S'):kR S' M n m L T :=
 ⟨a.has h.cell,a.has h.mino,a.has h.lamo,fun i b=>a.has (h.lamr i b),h.bas.ext a,h.n1,h.n2,h.n3,h.n4⟩
theorem kR.congr{L' T':aB}(h:kR S M n m L T)(b:∀k,k<n+1->m k=m' k)(c:∀i j,i<n->j<i->L i j=L' i j)(d:∀i j,i<n->j<n->T i j=T' i j):kR S M n m' L' T' :=
 ⟨h.cell,h.mino.congr fun k e=>by rw[b k e],h.lamo,fun i a=>(h.lamr i a).congr fun j f=>by rw[c i j a f],h.bas.congr d,h.n1,h.n2,h.n3,h.n4⟩
def mH(M:oC)(n b:Nat):Prop:=b=M.bs∨b=M.bm∨b=M.bl∨b=M.bb∨∃i,i<n/\(b=M.gl i∨b=M.gb i)
theorem kR.inn(h:kR S M n m L T){c:Nat}(a:S c=ae):¬mH M n c:=by
 rintro (e|e|e|e|⟨i,b,e|e⟩)
 ·exact aR.fresh h.cell a e.symm
 ·exact aR.fresh h.mino a e.symm
 ·exact aR.fresh h.lamo a e.symm
 ·exact aR.fresh h.bas.outer a e.symm
 ·exact aR.fresh (h.lamr i b) a e.symm
 ·exact aR.fresh (h.bas.row i b) a e.symm
theorem mH.ne(h:¬mH M n b):M.bs≠b/\M.bm≠b/\M.bl≠b/\M.bb≠b/\(∀i,i<n->M.gl i≠b)/\∀i,i<n->M.gb i≠b :=
 ⟨fun e=>h (bn e.symm),fun e=>h (aK (bn e.symm)),fun e=>h (aK (aK (bn e.symm))),fun e=>h (aK (aK (aK (bn e.symm)))),
  fun i a e=>h (aK (aK (aK (aK ⟨i,a,bn e.symm⟩)))),fun i a e=>h (aK (aK (aK (aK ⟨i,a,aK e.symm⟩))))⟩
theorem kR.upd(h:kR S M n m L T){c:Nat}(a:¬mH M n c)(X:dH):kR (S.upd c X) M n m L T :=
 ⟨h.cell.upd (fun e=>a (bn e.symm)) _,h.mino.upd (fun e=>a (aK (bn e.symm))) _,h.lamo.upd (fun e=>a (aK (aK (bn e.symm)))) _,
  fun i b=>(h.lamr i b).upd (fun e=>a (aK (aK (aK (aK ⟨i,b,bn e.symm⟩))))) _,
  h.bas.upd (fun e=>a (aK (aK (aK (bn e.symm))))) (fun i b e=>a (aK (aK (aK (aK ⟨i,b,aK e.symm⟩))))) _,h.n1,h.n2,h.n3,h.n4⟩
theorem kR.setT(h:kR S M n m L T){k c:Nat}{z:Int}{g:Nat->AV}(a:k<n)(u:S (M.gb k)=some ⟨50,2,n,g⟩):kR (S.upd (M.gb k) ⟨50,2,n,aL g c (.big z)⟩) M n m L (dK T k c z) :=
 ⟨h.cell.upd (aR.ne h.cell (aR.of u) dc) _,h.mino.upd (ai (h.n2 k a)) _,h.lamo.upd (aR.ne h.lamo (aR.of u) dc) _,fun i b=>(h.lamr i b).upd (h.n3 i k b a) _,h.bas.set a u,h.n1,h.n2,h.n3,h.n4⟩
theorem kR.setL(h:kR S M n m L T){k c:Nat}{z:Int}{g:Nat->AV}(b:k<n)(u:S (M.gl k)=some ⟨50,2,k,g⟩):kR (S.upd (M.gl k) ⟨50,2,k,aL g c (.big z)⟩) M n m (dK L k c z) T:=by
 refine⟨h.cell.upd (aR.ne h.cell (aR.of u) dc) _,h.mino.upd (ai (h.n1 k b)) _,h.lamo.upd (aR.ne h.lamo (aR.of u) dc) _,fun i a=>?_,h.bas.upd (aR.ne h.bas.outer (aR.of u) dc) (fun i a=>ai (h.n3 k i b a)) _,h.n1,h.n2,h.n3,h.n4⟩
 by_cases e:i=k
 ·subst e;obtain⟨p,d,f⟩:=h.lamr i a;rw[u]at d;cases d;refine aR.here fun j l=>?_;have:=f j l;simp only[aL,dK]
  grind
 ·refine((h.lamr i a).upd (fun o=>e (h.n4 i k a b o)) _).congr fun j _=>?_;simp[dK,e]
theorem kR.setM(h:kR S M n m L T){k:Nat}{z:Int}{g:Nat->AV}(u:S M.bm=some ⟨50,2,n+1,g⟩):kR (S.upd M.bm ⟨50,2,n+1,aL g k (.big z)⟩) M n (fun j=>if j=k then z else m j) L T:=by
 refine⟨h.cell.upd (aR.ne h.cell (aR.of u) dc) _,?_,h.lamo.upd (aR.ne h.lamo (aR.of u) dc) _,fun i a=>(h.lamr i a).upd (h.n1 i a) _,h.bas.upd (aR.ne h.bas.outer (aR.of u) dc) (fun i a=>h.n2 i a) _,h.n1,h.n2,h.n3,h.n4⟩
 obtain⟨e,b,c⟩:=h.mino;rw[u]at b;cases b;refine aR.here fun j d=>?_;have:=c j d;simp only[aL]
 grind
def mJ(M:oC)(n:Nat)(S S':St):Prop:=∀d X,¬mH M n d->S d=some X->S' d=some X
theorem mJ.refl(M:oC)(n:Nat)(S:St):mJ M n S S:=fun _ _ _ h=>h
theorem mJ.trans(h:mJ M n S S')(k:mJ M n S' S''):mJ M n S S'':=fun d X a b=>k d X a (h d X a b)
theorem mJ.ext(h:mJ M n S S')(k:cY S' S''):mJ M n S S'':=fun d X a b=>k d X (h d X a b)
theorem mJ.upd(h:mJ M n S S'){c:Nat}(b:mH M n c)(X:dH):mJ M n S (S'.upd c X):=fun d Y a f=>by
 rw[aH (fun e=>a (by rw[e];exact b))];exact h d Y a f
theorem mH.gb(a:i<n):mH M n (M.gb i):=aK (aK (aK (aK ⟨i,a,aK rfl⟩)))
theorem mH.gl(a:i<n):mH M n (M.gl i):=aK (aK (aK (aK ⟨i,a,bn rfl⟩)))
theorem mH.bm:mH M n M.bm:=aK (bn rfl)
theorem kR.frm(h:kR S M n m L T){c:Nat}(a:¬mH M n c)(j:∀d X,d≠c->S d=some X->S' d=some X):kR S' M n m L T:=by
 have kp:∀{b ty es k:Nat} {g:Nat->AV},aR S b ty es k g->b≠c->aR S' b ty es k g:=fun⟨g',l,o⟩ p=>⟨g',j _ _ p l,o⟩;exact⟨kp h.cell (fun e=>a (bn e.symm)),kp h.mino (fun e=>a (aK (bn e.symm))),kp h.lamo (fun e=>a (aK (aK (bn e.symm)))),
  fun i f=>kp (h.lamr i f) (fun e=>a (e▸mH.gl f)),
  ⟨kp h.bas.outer (fun e=>a (aK (aK (aK (bn e.symm))))),fun i f=>kp (h.bas.row i f) (fun e=>a (e▸mH.gb f)),h.bas.inj⟩,h.n1,h.n2,h.n3,h.n4⟩
theorem kR.c0(h:kR S M n m L T):∃g,S M.bs=some ⟨160,1,4,g⟩/\g 0=.sl 2 M.bm 0 (n+1)/\g 1=.sl 1 M.bl 0 n/\g 2=.sl 1 M.bb 0 n/\g 3=.mfn 206 [.ptr 1 M.bs 0]:=by
 obtain⟨g,u,v⟩:=h.cell;exact⟨g,u,v 0 om,v 1 om,v 2 om,v 3 om⟩
theorem kR.m0(h:kR S M n m L T):∃g,S M.bm=some ⟨50,2,n+1,g⟩/\∀k,k<n+1->g k=.big (m k):=h.mino
theorem kR.l0(h:kR S M n m L T):∃g,S M.bl=some ⟨59,1,n,g⟩/\∀i,i<n->g i=.sl 2 (M.gl i) 0 i:=h.lamo
theorem kR.l1(h:kR S M n m L T){i:Nat}(a:i<n):∃g,S (M.gl i)=some ⟨50,2,i,g⟩/\∀j,j<i->g j=.big (L i j):=h.lamr i a
theorem kR.b0(h:kR S M n m L T):∃g,S M.bb=some ⟨59,1,n,g⟩/\∀i,i<n->g i=.sl 2 (M.gb i) 0 n:=h.bas.outer
theorem kR.b1(h:kR S M n m L T){i:Nat}(a:i<n):∃g,S (M.gb i)=some ⟨50,2,n,g⟩/\∀j,j<n->g j=.big (T i j):=h.bas.row i a

theorem Dt{K:AV->Prop}(a:j<=n)(h:K (.lst 2 j g)):kQ 59 (.lst 2 n g) (some (.int .i64 0)) (some (.int .i64 (j:Int))) ae K :=
 ⟨rfl,0,j,rfl,rfl,trivial,om,a,by simpa using h⟩
theorem JV(n m M:Nat)(A:Nat->Nat->Int)(k:Nat)(h1:n<=100)(h2:m<=M)(h2':M<=100)(h3:1<=m)(hA:∀i j,i<n->j<m->nb (A i j) k)(hk:k<=1000000):MF 186 [aV n M A,.int .i64 0,.int .i64 m] n m A:=by
 refine MF.of ?_;refine ak func186 rfl 48 ntmps186 kr sm (by simp[results186]) ?_
 rw[aF,results186];have hz:((0:Int)==(m:Int))=false:=by simp;omega
 simp -dsimp only[go_sem,aV,bA,hz]
 repeat refine an ?_
 refine au.intro fun r f7=>?_;simp -dsimp only[go_sem];refine aI (fun O S=>∃(i:Nat) (g:Nat->Nat),i<=n/\O 1=.int .i64 0/\O 2=.int .i64 m/\O 7=.sl 1 r 0 n/\O 18=aV n M A/\O 19=.int .i64 n/\O 20=.int .i64 i /\
  aR S r 59 1 n (fun a=>if a<i then .sl 2 (g a) 0 m else .nil)/\(∀a,a<i->ic S (g a) m (A a))/\∀a c,a<i->c<i->g a=g c->a=c) (fun O S=>n-bT (O 20)) ?_ ?_
 ·simp -dsimp only[go_sem,aV,bA];exact⟨0,om,rfl,fun _=>0,aR.here fun _ _=>by simp,fun a b=>om,fun a c b=>om⟩
 ·rintro O S ⟨i,g,hi,t,u,s,f,l,o,G,E,hI⟩;by_cases q:i<n
  ·simp -dsimp only[go_sem,aV,bA,t,u,s,f,l,o,q,dL,ke];refine Dt h2 ?_;simp -dsimp only[go_sem];refine aI (fun O S'=>∃(j:Nat) (x:AV),j<=m/\O 1=.int .i64 0/\O 2=.int .i64 m/\O 7=.sl 1 r 0 n/\O 8=.int .i64 i/\O 18=aV n M A/\O 19=.int .i64 n/\O 20=.int .i64 i/\O 28=bA m (A i)/\O 29=.int .i64 m/\O 30=.int .i64 j /\
    aR S' r 59 1 n (fun a=>if a<i then .sl 2 (g a) 0 m else if a=i then x else .nil)/\(∀a,a<i->ic S' (g a) m (A a)/\¬dl x (g a))/\cC 50 2 St.none S' x j (fun c=>.big (A i c))) (fun O S=>m-bT (O 30)) ?_ ?_
   ·simp -dsimp only[go_sem,aV,bA,t,u,s,f,l,o];exact⟨0,om,rfl,.nil,G.congr fun a _=>by grind,fun a b=>⟨E a b,by rintro⟨_,_,_,e⟩;cases e⟩,cC.nil (fun k X h=>by cases h) _⟩
   ·rintro O S' ⟨j,x,hj,t,u,s,V,f,l,o,v,w,y,G,E,F⟩;by_cases z:j<m
    ·simp -dsimp only[go_sem,aV,bA,t,u,s,f,l,o,v,w,y,z];refine au.intro fun B C=>?_;obtain⟨g1,H,W⟩:=G;have Q:g1 i=x:=by rw[W i q];simp
     have D:r≠B:=aR.fresh (aR.of H) C;simp -dsimp only[go_sem];refine eR 9 kr ?_
     simp -dsimp only[go_sem,s,V,q,D,H,Q,aL]
     repeat refine an ?_
     refine⟨_,(qK (hA i j q z) om).pure',?_⟩;simp -dsimp only[go_sem];have I:∀d,dl x d->d≠B:=F.fresh C;have R:=F.other H om;refine cC.app50 ((F.upd (by rfl) I _).upd (by rfl) I _) om (show dN 2 (.big (A i j))from trivial) (bn ⟨_,rfl,rfl⟩) ?_
     intro c S2 J K L;have N:=K r _ (by rw[aH D,aH D];exact H) R
     simp -dsimp only[go_sem,aV,bA,t,u,s,V,f,l,o,v,w,y,q,N,aM (om:j<1000000),bT]
     repeat refine an ?_
     refine⟨⟨j+1,om,rfl,.sl 2 c 0 (j+1),aR.here fun a b=>?_,fun a b=>?_,?_⟩,om⟩
     ·have:=W a b;grind [aL]
     ·obtain⟨P,Y⟩:=E a b;have p:g a≠B:=aR.fresh P C;have T:g a≠r:=aR.ne P (aR.of H) om;refine⟨(P.via fun X F=>K _ _ (by rw[aH p,aH p];exact F) Y).upd T _,fun Z=>?_⟩
      rw[dk]at Z;rw[<-Z]at L;rcases L with h|h
      ·exact Y h
      ·rw[aH p,aH p]at h;exact aR.fresh P h rfl
     ·refine(J.upd (by rfl) (fun d U e=>?_) _).congr (fun a b=>by grind)
      rw[e]at U;exact J.other N om U
    ·simp -dsimp only[go_sem,aV,bA,t,u,s,f,l,o,v,w,y,z,aM (om:i<1000000),bT]
     obtain rfl:j=m:=om
     rcases F.2 with⟨h0,_⟩|⟨c,_,rfl,hC⟩
     ·omega
     refine⟨⟨i+1,om,rfl,fun a=>if a=i then c else g a,G.congr fun a b=>by grind,fun a b=>?_,fun a d b U e=>?_⟩,om⟩
     ·by_cases e:a=i
      ·subst e;simp only[if_true];exact hC
      ·simp only[e,if_false];exact(E a om).1
     ·have k1:=fun a b=>(E a b).2;simp only[dk]at k1
      grind
  ·simp -dsimp only[go_sem,aV,bA,t,u,s,f,l,o,q];obtain rfl:i=n:=om
   exact⟨r,rfl,g,G.congr fun a b=>by simp[b],E,hI⟩
structure tw(n k:Nat)(A:aB)(B:aB):Prop where
 ex:∃R H U,GG n A R H U/\Ad n k (fun i j=>kC (n+1) (fun k r=>A r k) U j i)/\B=fun i j=>kC (n+1) (fun k r=>A r k) U j i
theorem zg(n k:Nat)(M:aB)(d:mj n (eg n M))(e:k<=1000000)(f:∀R H U,GG n (eg n M) R H U->(∀a r,a<n+1->r<n+n+1->nb (kC (n+1) (fun k r=>eg n M r k) U a r) k)/\Ad n k (fun i j=>kC (n+1) (fun k r=>eg n M r k) U j i)) :
  cL 123 [aV n (n+1) M] St.none (fun r S'=>∃b g B,r=.tup [.sl 1 b 0 n,.bool true]/\tw n k (eg n M) B/\dd S' b g n n B):=by
 have l:=d.h1;have s:=d.hn;refine ak func123 rfl 26 ntmps123 kr sm (by simp[results123]) ?_
 rw[aF,results123];simp -dsimp only[go_sem,aa];refine(BM n k M d e fun R H U h=>(f R H U h).1).mono ?_;rintro _ S1 ⟨R,H,U,m,V,rfl⟩;have c:=(f R H U m).2;have o:tw n k (eg n M) (fun i j=>kC (n+1) (fun k r=>eg n M r k) U j i):=⟨R,H,U,m,c,rfl⟩;generalize (fun i j=>kC (n+1) (fun k r=>eg n M r k) U j i)=B at c o;simp -dsimp only[go_sem,aa];refine(FW n k B l om e c).call ?_;simp -dsimp only[go_sem,aa];refine(JV n n (n+1) B k om om om l (fun i j p t=>c.nb i j p om) e _ _ (cD _ _)).mono ?_;rintro _ S2 ⟨b,g,rfl,q⟩;simp -dsimp only[go_sem];exact⟨b,rfl,g,B,o,q.1⟩

theorem Ao(n m:Nat)(A:aB)(i j:Nat)(S:St)(b a:Nat)(d:i<n)(e:j<m)(f:iF (A i j))(g:cE S b 52 1 (aV n m A))(h:cE S a 4 1 (.bool true)) :
  cL 99 [.int .i64 i,.int .i64 j,.ptr 1 b 0,.ptr 1 a 0] S (fun r S'=>r=.int .i64 (A i j)/\Dg a S S'/\cE S' a 4 1 (.bool true)):=by
 refine ak func99 rfl 25 ntmps99 kr sm (by simp[results99]) ?_
 rw[aF,results99];obtain⟨p,k,c⟩:=id g;obtain⟨q,l,o⟩:=id h;simp -dsimp only[go_sem,aa,k,c,aV,bA,d,e];refine(pR f).call ?_;simp -dsimp only[go_sem,aa,c,l,o,aV,bA];exact⟨(Dg.refl a S).upd _,cE.set⟩
structure TIs(T S:St)(b1 b6 n m:Nat)(A:aB):Prop where
 box:cE S b1 52 1 (aV n m A)
 ok:cE S b6 4 1 (.bool true)
theorem Bl(n m:Nat)(A:aB)(S0:St)(t q:Nat)(hn:n<=16)(hm:m<=16)(hA:∀i j:Nat,i<n->j<m->iF (A i j))(s:cE S0 t 52 1 (aV n m A))(o:cE S0 q 4 1 (.bool true)) :
  cL 98 [.int .i64 n,.int .i64 m,.fn 99 [.ptr 1 t 0,.ptr 1 q 0]] S0 (fun r S'=>∃b g,r=.sl 1 b 0 n/\cT S' b g n m A/\cE S' q 4 1 (.bool true)):=by
 refine ak func98 rfl 43 ntmps98 kr sm (by simp[results98]) ?_
 rw[aF,results98];simp -dsimp only[go_sem]
 repeat refine an ?_
 refine au.intro fun bc fc=>?_;simp -dsimp only[go_sem];have n1c:t≠bc:=s.fresh fc;have n6c:q≠bc:=o.fresh fc;refine aI (fun O S'=>∃i:Nat,i<=n/\O 1=.int .i64 m/\O 2=.fn 99 [.ptr 1 t 0,.ptr 1 q 0]/\O 7=.sl 1 bc 0 n/\O 13=.int .i64 n/\O 14=.int .i64 i/\cE S' t 52 1 (aV n m A)/\cE S' q 4 1 (.bool true)/\∃g',eQ 29 2 1 St.none S' bc g' n m i (fun a j=>.int .i64 (A a j))) (fun O S=>n-bT (O 14)) ?_ ?_
 ·simp -dsimp only[go_sem];refine⟨0,om,rfl,s.upd n1c _,o.upd n6c _,fun _=>0,(eQ.init (S1:=St.none) (b:=bc) (z:=fun _=>.nil) rfl (fun _ _=>rfl) _ _).other fun k X N=>?_⟩
  simp only[St.upd]at N ⊢;split at N
  ·rename_i e;rw[if_pos e];exact N
  ·cases N
 ·clear s o n1c n6c;rintro O S' ⟨i,hi,E,w,B,d,f,s,o,g',p⟩;by_cases h:i<n
  ·obtain⟨J,C,R⟩:=id p.outer;simp -dsimp only[go_sem,aa,E,B,d,f,h]
   repeat refine an ?_
   refine au.intro fun bd fd=>?_;have T:bc≠bd:=aR.fresh p.outer fd;have K:aL J i (.sl 1 bd 0 m) i=.sl 1 bd 0 m:=by simp[aL]
   simp -dsimp only[go_sem,h,C,T,K];have F:=p.push dc fd C (fun _=>.int .i64 0)
   have P:t≠bc:=by obtain⟨x,k,_⟩:=s;rintro rfl;rw[C]at k;cases k
   have L:q≠bc:=by obtain⟨x,k,_⟩:=o;rintro rfl;rw[C]at k;cases k
   have u:=(s.upd (s.fresh fd) ⟨2,1,m,fun _=>.int .i64 0⟩).upd P ⟨29,1,n,aL J i (.sl 1 bd 0 m)⟩;have D:=(o.upd (o.fresh fd) ⟨2,1,m,fun _=>.int .i64 0⟩).upd L ⟨29,1,n,aL J i (.sl 1 bd 0 m)⟩;generalize U:(fun a=>if a=i then bd else g' a)=gg at F
   refine aI (fun O S'=>∃j:Nat,j<=m/\O 1=.int .i64 m/\O 2=.fn 99 [.ptr 1 t 0,.ptr 1 q 0]/\O 7=.sl 1 bc 0 n/\O 8=.int .i64 i/\O 13=.int .i64 n/\O 14=.int .i64 i/\O 26=.int .i64 m/\O 27=.int .i64 j/\cE S' t 52 1 (aV n m A)/\cE S' q 4 1 (.bool true)/\eQ 29 2 1 St.none S' bc gg n m (i+1) (fun a c=>.int .i64 (if a=i/\j<=c then 0 else A a c))) (fun O S=>m-bT (O 27)) ?_ ?_
   ·simp -dsimp only[go_sem,E,w,B,d,f];refine⟨0,om,rfl,u,D,F.congr fun a c _ _=>?_⟩
    by_cases e:a=i
    ·simp[e]
    ·simp[e]
   ·clear E w B d f p F C R U u D s o P L;rintro O S' ⟨j,hj,E,w,B,e8,d,f,G,H,s,o,p⟩;by_cases v:j<m
    ·obtain⟨J,C,R⟩:=id p.outer;obtain⟨g5,u5,v5⟩:=id (p.row i om);have x4:J i=.sl 1 (gg i) 0 m:=(R i h).trans (if_pos om);have L:bc≠q:=by obtain⟨x,k,_⟩:=o;rintro rfl;rw[C]at k;cases k
     have k6g:∀a,a<i+1->gg a≠q:=fun a Q=>by
      obtain⟨x,k,_⟩:=o;obtain⟨y,l,_⟩:=p.row a Q;intro e;rw[e,k]at l;cases l
     have P:t≠q:=by obtain⟨x,k,_⟩:=o;obtain⟨y,l,_⟩:=s;rintro rfl;rw[k]at l;cases l
     simp -dsimp only[go_sem,E,w,B,d,f,G,H,v];refine ej 8 [[0,1,2,3,4],[],[]] kr ?_
     simp -dsimp only[go_sem,aa,w,B,e8,h,C,x4];refine(Ao n m A i j S' t q h v (hA i j h v) s o).mono ?_;rintro _ S2 ⟨rfl,M,D⟩;have V:=(M bc L).trans C;have I:=(M (gg i) (k6g i om)).trans u5;have W:eQ 29 2 1 St.none S2 bc gg n m (i+1) (fun a c=>.int .i64 (if a=i/\j<=c then 0 else A a c)):=⟨cY.noneS _,p.new,M.has L p.outer,fun a Q=>M.has (k6g a Q) (p.row a Q),p.rnew,p.inj⟩
     have u:=M.var P s;have Y:t≠gg i:=by obtain⟨x,k,_⟩:=u;rintro rfl;rw[I]at k;cases k
     have Z:q≠gg i:=fun e=>k6g i om e.symm;simp -dsimp only[go_sem,aa,E,w,B,e8,d,f,G,H,h,v,V,x4,I,aM (om:j<1000000),bT]
     refine⟨⟨j+1,om,rfl,u.upd Y _,D.upd Z _,(W.put dc (om:i<i+1) I j (.int .i64 (A i j))).congr fun a c _ _=>?_⟩,om⟩
     by_cases e:a=i/\c=j
     ·obtain⟨rfl,rfl⟩:=e;rw[if_pos ⟨rfl,rfl⟩,if_neg om]
     ·rw[if_neg e];congr 1;by_cases w:a=i/\j<=c
      ·rw[if_pos w,if_pos om]
      ·rw[if_neg w,if_neg om]
    ·simp -dsimp only[go_sem,E,w,B,d,f,G,H,v,aM (om:i<1000000),bT]
     exact⟨⟨i+1,om,rfl,s,o,gg,p.congr fun a c _ hc=>by rw[if_neg om]⟩,om⟩
  ·obtain rfl:i=n:=om
   have hN:=p.imat (A:=A) (fun _ _ _ _=>rfl);simp -dsimp only[go_sem,aa,E,B,d,f,h];exact⟨bc,rfl,g',hN.1,o⟩
theorem o9(n m:Nat)(A:aB)(h:1<=n)(a:n<=16)(k:1<=m)(c:m<=16)(l:∀i j:Nat,i<n->j<m->iF (A i j)):zd 43 [aV n m A] n m A:=by
 refine zd.of ?_;refine ak func43 rfl 23 ntmps43 kr sm (by simp[results43]) ?_
 rw[aF,results43];simp -dsimp only[go_sem,aa,aV,bA];refine au.intro fun d f1=>?_
 try simp -dsimp only[go_sem]
 refine(ks n m A h a k c).call ?_;simp -dsimp only[go_sem];refine au.intro fun e o=>?_;have n6_1:=(ag o).1;have f:d≠e:=n6_1.symm;simp -dsimp only[go_sem,aa,dr];refine(Bl n m A _ d e a c l ?_ ?_).mono ?_
 ·refine cE.upd (cE.upd (cE.new ?_) f _) f _;rfl
 ·exact cE.set
 rintro _ S2 ⟨b,g,rfl,p,q⟩;obtain⟨t,r,s⟩:=id q;simp -dsimp only[go_sem,aa,r,s];exact⟨b,rfl,g,p⟩

theorem tJ(b:Nat)(m:Int)(S:St):cL 227 [.sl 1 b 0 1,.int .i64 m] S (fun r S'=>r=.int .i64 1/\cY S S'):=by
 refine ak func227 rfl 75 ntmps227 kr sm (by simp[results227]) ?_
 rw[aF,results227];simp -dsimp only[go_sem,aa];refine(mi m S).mono ?_;rintro _ S1 ⟨bm,i,rfl,j,n⟩;simp -dsimp only[go_sem];refine cg (fun O S'=>∃c:Nat,c<=1/\S'=S1/\O 0=.sl 1 b 0 1/\O 6=.int .i64 1/\O 12=.int .i64 ((1:Nat):Int)/\O 13=.int .i64 c) (fun O S=>1-bT (O 13)) ?_ ?_
 ·simp -dsimp only[go_sem];exact⟨0,om,rfl⟩
 rintro Q' h O S' ⟨c,o,rfl,e,f,a,d⟩;by_cases g:c<1
 ·obtain rfl:c=0:=om
  simp -dsimp only[go_sem,a,d,g];refine cg (fun O S=>S=S'/\O 0=.sl 1 b 0 1/\O 6=.int .i64 1/\O 8=.int .i64 1/\O 12=.int .i64 ((1:Nat):Int)/\O 13=.int .i64 ((0:Nat):Int)) (fun O S=>0) ?_ ?_
  ·simp -dsimp only[go_sem,e,f,a,d];rw[aM (k:=0) om];rfl
  clear e f a d;rintro Q'' hQ'' O S ⟨rfl,e,f,l,a,d⟩;simp -dsimp only[go_sem,e,l,show decide ((1:Int)<((1:Nat):Int))=false by rfl]
  rw[hQ''];simp -dsimp only[go_sem,e,f,a,d,bT];rw[aM (k:=0) om];exact⟨⟨1,om,rfl⟩,sm⟩
 ·simp -dsimp only[go_sem,a,d,g];rw[h];simp -dsimp only[go_sem,f];exact j
theorem appZ1{K:AV->St->Prop}(a:S b=some ⟨2,1,1,g⟩)(c:∀b',(b'=b∨S b'=ae)->K (.sl 1 b' 0 2) ((S.del b).upd b' ⟨2,1,2,oB g 1 1 (fun _=>.int .i64 0)⟩)):qo 29 (.sl 1 b 0 1) (.int .i64 1) S K:=by
 show(match dw 29,S b with
  | some e,some X=>(match fD e with
   | some (es',z,_)=>es'=1/\1=bS e/\0=0/\X.ty=e/\X.es=1/\X.n=1/\1<=1/\1+1<=1048576 /\
    ∀b',(b'=b∨S b'=ae)->K (.sl 1 b' 0 (1+1)) ((S.del b).upd b' ⟨e,1,1+1,oB X.g 1 1 (fun _=>z)⟩)
   | ae=>False)
  | _,_=>False)
 rw[a];exact⟨rfl,rfl,rfl,rfl,rfl,rfl,om,om,c⟩
theorem I1{off len:Nat}{K:AV->St->Prop}(d:S b=some ⟨2,1,n,g⟩)(c:∀j,j<len->g (off+j)=.int .i64 (v j))(e:0<len)(f:off+len<=n)(p:len<=1000)
  (i:∀b' h,S b'=ae->(∀j,j<len->h j=.int .i64 (v j))->K (.sl 1 b' 0 len) (S.upd b' ⟨2,1,len,h⟩)):fZ 29 29 .nil (.sl 1 b off len) S K:=by
 have l:zN S (.sl 1 b off len)=some (1,len,fun j=>g (off+j),some b):=by simp[zN,d,f]
 unfold fZ;rw[show dw 29=some 2 from rfl,l];refine⟨rfl,rfl,rfl,e,fun j m=>?_,om,fun b' a=>i b' _ a fun k o=>c k o⟩
 show dN 1 (g (off+j));rw[c j m];simp[dN]
theorem Ca{K:AV->Prop}(h:K (.sl 1 b 1 1)):kQ 29 (.sl 1 b 0 2) (some (.int .i64 1)) ae ae K :=
 ⟨rfl,1,2,rfl,rfl,trivial,om,om,h⟩
theorem Jk(P:St->Prop)(a:P S)(h:∀T,P T->BQ ops l O T K):BQ ops l O S K:=h S a
theorem ME:((1:Nat):Int)=1:=om
theorem c0i:((0:Nat):Int)=0:=om
def GY(a p:Int):Nat->Int:=fun j=>if j=0 then a%p else 1
theorem tp(F:Nat)(a p:Int)(Y:2<=p)(J:p<=1000000)(Z:pU F p (a%p) 0 1=true):Db 179 [ax 1 1 (fun _ _=>a),.int .i64 p] 1 1 (fun _ _=>Bc F p (a%p) 0 1%p):=by
 refine Db.of ?_;refine ak func179 rfl 123 ntmps179 kr sm (by simp[results179]) ?_
 rw[aF,results179];have hr0:0<=a%p/\a%p<p:=⟨a9 _ om,aU _ om⟩;generalize X:Bc F p (a%p) 0 1%p=f;have C:0<=f/\f<p:=by rw[<-X];exact⟨a9 _ om,aU _ om⟩
 simp -dsimp only[go_sem,aa,ax,aX];refine(uC 1 (fun _ _=>a) om om).call ?_;simp -dsimp only[go_sem,aa];refine(kq p Y om).call ?_;simp -dsimp only[go_sem,aa];refine(lR 1 1 (fun _ _=>a) p om om om om _ _ (cD _ _)).mono ?_;rintro _ S1 ⟨b,g,rfl,K,_⟩;have G:=K.outer;have H:=K.row 0 om;simp -dsimp only[go_sem];refine cg (fun O S=>∃i:Nat,i<=1/\O 1=.int .i64 p/\O 7=.int .i64 ((1:Nat):Int)/\O 8=.sl 1 b 0 1/\O 30=.int .i64 ((1:Nat):Int)/\O 31=.int .i64 i/\∃c,aR S b 29 1 1 (fun _=>.sl 1 c 0 (1+i))/\aR S c 2 1 (1+i) (fun j=>.int .i64 (GY a p j))) (fun O S=>1-bT (O 31)) ?_ ?_
 ·simp -dsimp only[go_sem];refine⟨0,om,rfl,g 0,G.congr fun j x=>?_,H.congr fun j x=>?_⟩
  ·obtain rfl:j=0:=om
   rfl
  ·obtain rfl:j=0:=om
   simp[GY,kW]
 clear K G H;rintro Q' y O S ⟨i,hi,r,q,d,z,A,c,e,l⟩;by_cases o:i<1
 ·obtain rfl:i=0:=om
  have s:b≠c:=aR.ne e l dc
  obtain⟨gb,ub,vb⟩:=id e;obtain⟨gc,uc,vc⟩:=id l;have xb:gb 0=.sl 1 c 0 1:=vb 0 om;have xc:gc 0=.int .i64 (a%p):=(vc 0 om).trans (by simp[GY])
  simp -dsimp only[go_sem,aa,q,d,z,A,o,ub,xb,ME,c0i]
  repeat refine an ?_
  refine appZ1 uc ?_;intro b' B;have w:b≠b':=by
   rcases B with rfl|h
   ·exact s
   ·exact aR.fresh e h
  refine Jk (fun T=>aR T b 29 1 1 (fun _=>.sl 1 c 0 1)/\aR T b' 2 1 2 (fun j=>.int .i64 (if j=0 then a%p else 0))) ?_ ?_
  ·refine⟨⟨gb,?_,vb⟩,aR.here fun j x=>?_⟩
   ·rw[aH w];unfold St.del;rw[if_neg s];exact ub
   ·match j,x with
    | 0,_=>simp[oB,aL,xc]
    | 1,_=>simp[oB,aL]
  clear e l ub uc vb vc xb xc s B;rintro T ⟨e,l⟩;obtain⟨gb,ub,vb⟩:=id e;obtain⟨gc,uc,vc⟩:=id l;have I:b'≠b:=w.symm;have L:IntKind.i64.wrap (1+0)=1:=dV (n:=1) om om;have M:IntKind.i64.wrap (0+1)=1:=dV (n:=1) om om;simp -dsimp only[go_sem,aa,r,q,d,z,A,o,ub,uc,ME,c0i,I,dr,L,M,bT]
  repeat refine an ?_
  refine⟨⟨1,om,rfl,b',?_,?_⟩,om⟩
  ·refine aR.upd (aR.here fun j x=>?_) w _;obtain rfl:j=0:=om
   simp[aL]
  ·refine aR.here fun j x=>?_
   match j,x with
   | 0,_=>simp[aL,vc 0 om,GY]
   | 1,_=>simp[aL,GY]
 obtain rfl:i=1:=om
 simp -dsimp only[go_sem,aa,q,d,z,A,o];rw[y];simp -dsimp only[go_sem,aa,r,d];refine(tJ b p S).mono ?_;rintro _ S2 ⟨rfl,D⟩
 replace e:=D.has e
 replace l:=D.has l
 simp -dsimp only[go_sem,aa,r,d];refine(mi p S2).mono ?_;rintro _ S3 ⟨bm,_,rfl,E,_⟩
 replace e:=E.has e
 replace l:=E.has l
 have w0:IntKind.i64.wrap (1-1)=0:=dV (n:=0) om om;simp -dsimp only[go_sem,r,q,ME,w0];clear D E y o;refine cg (fun O S=>∃k:Nat,k<=1/\O 1=.int .i64 p/\O 7=.int .i64 1/\O 8=.sl 1 b 0 1/\O 11=.int .i64 ((k:Int)-1)/\aR S b 29 1 1 (fun _=>.sl 1 c 0 2)/\aR S c 2 1 2 (fun j=>.int .i64 (if k=0 then GY a p j*f%p else GY a p j))) (fun O S=>Gl (O 11)) ?_ ?_
 ·simp -dsimp only[go_sem,r,q,d,ME];exact⟨1,om,rfl,e,l.congr fun j _=>by simp⟩
 clear e l r q d z A;rintro Q' y O S ⟨k,hk,r,q,d,m,e,l⟩;have s:b≠c:=aR.ne e l dc
 by_cases N:k=0
 ·subst N;have P:decide ((0:Int)<=((0:Nat):Int)-1)=false:=by simp
  simp -dsimp only[go_sem,aa,r,d,m,P];rw[y];simp -dsimp only[go_sem,d];refine cg (fun O S=>∃i:Nat,i<=1/\O 7=.int .i64 1/\O 8=.sl 1 b 0 1/\O 107=.int .i64 ((1:Nat):Int)/\O 108=.int .i64 i/\∃c,aR S b 29 1 1 (fun _=>.sl 1 c 0 (2-i))/\aR S c 2 1 (2-i) (fun j=>.int .i64 (if i=0 then GY a p j*f%p else f))) (fun O S=>1-bT (O 108)) ?_ ?_
  ·simp -dsimp only[go_sem,q,d];exact⟨0,om,rfl,c,e,l⟩
  clear e l r q d m s;rintro Q'' hQ'' O S ⟨i,hi,q,d,t,u,c,e,l⟩;have s:b≠c:=aR.ne e l dc
  by_cases o:i<1
  ·obtain rfl:i=0:=om
   obtain⟨gb,ub,vb⟩:=id e;obtain⟨gc,uc,vc⟩:=id l;have xb:gb 0=.sl 1 c 0 2:=vb 0 om;simp -dsimp only[go_sem,aa,q,d,t,u,o,ub,xb,ME,c0i,dL,ke]
   repeat refine an ?_
   refine Ca ?_
   try simp -dsimp only[go_sem,q,d,t,u,o,ub,xb,ME,c0i]
   refine I1 (v:=fun _=>f) uc (fun j x=>?_) om om om ?_
   ·obtain rfl:j=0:=om
    rw[vc 1 om];simp only[GY];rw[if_pos trivial,if_neg om,cF,Int.emod_eq_of_lt C.1 C.2]
   intro b' h B hh;have w:b≠b':=aR.fresh e B;have L:IntKind.i64.wrap (0+1)=1:=dV (n:=1) om om;simp -dsimp only[go_sem,aa,q,d,t,u,o,ub,ME,c0i,w,L,bT]
   repeat refine an ?_
   refine⟨⟨1,om,rfl,b',?_,?_⟩,om⟩
   ·refine aR.here fun j x=>?_;obtain rfl:j=0:=om
    simp[aL]
   ·refine aR.upd (aR.here fun j x=>?_) w.symm _;rw[hh j x];simp
  obtain rfl:i=1:=om
  simp -dsimp only[go_sem,aa,q,d,t,u,o];rw[hQ''];simp -dsimp only[go_sem,d];refine⟨b,rfl,fun _=>c,e,fun i _=>l.congr fun j _=>by simp,fun i j h1 h2 _=>om⟩
 obtain rfl:k=1:=om
 obtain⟨gb,ub,vb⟩:=id e;obtain⟨gc,uc,vc⟩:=id l;have xb:gb 0=.sl 1 c 0 2:=vb 0 om;have xc:gc 0=.int .i64 (a%p):=(vc 0 om).trans (by simp[GY])
 have P:decide ((0:Int)<=((1:Nat):Int)-1)=true:=by simp
 have w2:((1:Nat):Int)-1=((0:Nat):Int):=om
 rw[w2]at m P;simp -dsimp only[go_sem,aa,r,d,m,ub,uc,xb,xc];refine(yG F (a%p) p om om Z).call ?_;rw[X];simp -dsimp only[go_sem,aa,r,d,m,ub,xb,xc];refine(Dx 2 c (GY a p) f p S om om J C (fun j x=>?_) (l.congr fun j _=>by simp)).mono ?_
 ·unfold GY;split<;>omega
 rintro _ S4 ⟨Q,R⟩;have U:=Q.has s e;simp -dsimp only[go_sem,r,d,m];refine cg (fun O S=>S=S4/\O 1=.int .i64 p/\O 7=.int .i64 1/\O 8=.sl 1 b 0 1/\O 11=.int .i64 ((0:Nat):Int)/\O 84=.int .i64 ((0:Nat):Int)/\O 85=.int .i64 0) (fun O S=>0) ?_ ?_
 ·simp -dsimp only[go_sem,r,q,d,m]
 clear r q d m;rintro Q'' hQ'' O S ⟨rfl,r,q,d,m,V,W⟩;simp -dsimp only[go_sem,V,W,show decide ((0:Int)<((0:Nat):Int))=false by simp]
 rw[hQ''];have w3:IntKind.i64.wrap (((0:Nat):Int)-1)=((0:Nat):Int)-1:=i64_in om om;simp -dsimp only[go_sem,r,q,d,m,w3,Gl];refine⟨⟨0,om,rfl,U,R.congr fun j _=>by simp⟩,sm⟩
theorem tN(F:Nat)(a p:Int)(m:2<=p)(d:p<=1000000)(n:pU F p (a%p) 0 1=true):PF 142 [.int .i64 a,.int .i64 p] (.int .i64 (Bc F p (a%p) 0 1%p)):=by
 refine PF.of_spec (ak func142 rfl 22 ntmps142 kr sm (by simp[results142]) ?_)
 rw[aF,results142];simp -dsimp only[go_sem];refine au.intro fun e o=>?_;simp -dsimp only[go_sem];refine au.intro fun c f=>?_;have n10_9:=(ag f).1
 try simp -dsimp only[go_sem]
 have h:cT ((St.none.upd e ⟨2,1,1,fun j=>[AV.int .i64 a].getD j .any⟩).upd c ⟨29,1,1,fun j=>[AV.sl 1 e 0 1].getD j .any⟩) c (fun _=>e) 1 1 (fun _ _=>a):=by
  refine⟨aR.here fun j q=>?_,fun j _=>aR.upd (aR.here fun k r=>?_) n10_9.symm _,fun i j s t _=>om⟩
  ·obtain rfl:j=0:=om
   rfl
  ·obtain rfl:k=0:=om
   rfl
 refine(tp F a p m d n _ _ (dT.two h.vr.va (VA.refl _ _))).mono ?_;rintro _ S1 ⟨b,g,rfl,l,_⟩;obtain⟨gb,ub,vb⟩:=id l.outer;obtain⟨gc,uc,vc⟩:=id (l.row 0 om);have xb:gb 0=.sl 1 (g 0) 0 1:=vb 0 om;have xc:gc 0=.int .i64 (Bc F p (a%p) 0 1%p):=vc 0 om;simp -dsimp only[go_sem,aa,ub,uc,xb,xc]
 repeat refine an ?_
 exact VR.mf rfl

def fC(n:Nat)(H:aB)(p:Int)(v:Nat->Int):Nat->Int:=fun i=>jZ (kW H p) (kW (fun i _=>v i) p) n p i 0
theorem r7{p:Int}(a:2<=p)(i:Nat):0<=fC n H p v i/\fC n H p v i<p:=⟨a9 _ om,aU _ om⟩
theorem yB(F n piv:Nat)(H:aB)(p:Int)(v:Nat->Int)(inv:Int)(h1:1<=n)(hn:n<=8)(hp:2<=p)(P:p<=1000)(g:piv<n)(hw0:fC n H p v piv≠0)(hwz:∀i,i<piv->fC n H p v i=0)(he:pU F p (fC n H p v piv%p) 0 1=true)(K:inv=Bc F p (fC n H p v piv%p) 0 1%p) :
  LX 122 [ax n n H,.int .i64 p,aX n v] n n (fun j i=>gn p piv (fun j=>fC n H p v j*inv%p) i j):=by
 refine LX.of ?_;refine ak func122 rfl 103 ntmps122 kr sm (by simp[results122]) ?_
 rw[aF,results122];have Q:0<=inv/\inv<p:=by rw[K];exact⟨a9 _ om,aU _ om⟩
 simp -dsimp only[go_sem,aX]
 repeat refine an ?_
 refine au.intro fun b7 f7=>?_;simp -dsimp only[go_sem];refine aI (fun O S=>∃i:Nat,i<=n/\O 0=ax n n H/\O 1=.int .i64 p/\O 2=aX n v/\O 7=.sl 1 b7 0 n/\O 19=aX n v/\O 20=.int .i64 n/\O 21=.int .i64 i/\∃g',eQ 29 2 1 St.none S b7 g' n 1 i (fun a _=>.int .i64 (v a))) (fun O S=>n-bT (O 21)) ?_ ?_
 ·simp -dsimp only[go_sem,aX];exact⟨0,om,rfl,fun _=>0,eQ.init f7 (fun _ _=>rfl) _ _⟩
 rintro O S ⟨i,hi,R,m,w,U,x,y,z,g',o⟩;by_cases N:i<n
 ·obtain⟨g4,L,v4⟩:=id o.outer;simp -dsimp only[go_sem,aa,aX,R,m,U,x,y,z,N];refine au.intro fun b29 V=>?_;have hne:b7≠b29:=aR.fresh o.outer V;simp -dsimp only[go_sem,aa,aX,R,m,w,U,x,y,z,N,L,hne,aM (om:i<1000000),bT]
  refine⟨⟨i+1,om,rfl,_,(o.push dc V L (fun j=>[AV.int .i64 (v i)].getD j .any)).congr fun a c ha hc=>?_⟩,om⟩
  obtain rfl:c=0:=om
  by_cases e:a=i
  ·subst e;simp
  ·rw[if_neg e]
 have hin:i=n:=om
 subst hin;have hN:=o.imat (A:=fun i _=>v i) (fun _ _ _ _=>rfl);simp -dsimp only[go_sem,aa,aX,R,m,U,x,y,z,N];refine(GO i i 1 H (fun i _=>v i) p h1 om h1 om om om hp om S _ (dT.three (VA.refl _ _) hN.1.vr.va (VA.refl _ _))).mono ?_;rintro _ S1 ⟨bw,gw,rfl,Z,_,_,_⟩;simp -dsimp only[go_sem,aa,R,m,U];have W:∀k,jZ (kW H p) (kW (fun i _=>v i) p) i p k 0=fC i H p v k:=fun _=>rfl;refine(BH i 1 piv _ om om g (by rw[W];exact hw0) (fun k hk=>by rw[W];exact hwz k hk)).spec (dT.two Z.vr.va (VA.refl _ _)) ?_
 obtain⟨go,uo,vo⟩:=id Z.outer;obtain⟨gp,up,vp⟩:=id (Z.row piv g);have xo:go piv=.sl 1 (gw piv) 0 1:=vo piv g;have xp:gp 0=.int .i64 (fC i H p v piv):=vp 0 om;simp -dsimp only[go_sem,aa,m,g,uo,up,xo,xp]
 repeat refine an ?_
 refine(tN F (fC i H p v piv) p hp om he).call ?_;rw[<-K];simp -dsimp only[go_sem,aX,m,w]
 repeat refine an ?_
 refine au.intro fun l f14=>?_;simp -dsimp only[go_sem];have hq:∀k,0<=fC i H p v k*inv%p/\fC i H p v k*inv%p<p:=fun k=>⟨a9 _ om,aU _ om⟩;have hpp:p*p<=1000000:=by have:=bW P P om om;omega
 have hpp0:0<=p*p:=dA om om;have M:∀a b:Int,0<=a->a<p->0<=b->b<p->0<=a*b/\a*b<=1000000:=fun a b a0 a1 b0 b1=>by
  have h1:=bW (om:a<=p) (om:b<=p) b0 om
  exact⟨dA a0 b0,om⟩
 clear uo up vo vp xo xp;refine cg (fun O S=>∃j:Nat,j<=i/\O 1=.int .i64 p/\O 2=aX i v/\O 10=.sl 1 bw 0 i/\O 12=.int .i64 piv/\O 13=.int .i64 inv/\O 14=.sl 1 l 0 i/\O 53=.int .i64 i/\O 54=.int .i64 j/\∃g',eQ 29 2 1 S1 S l g' i i j (fun a c=>.int .i64 (gn p piv (fun j=>fC i H p v j*inv%p) c a))) (fun O S=>i-bT (O 54)) ?_ ?_
 ·simp -dsimp only[go_sem,m,w,aX];exact⟨0,om,rfl,fun _=>0,eQ.init f14 (fun _ _=>rfl) _ _⟩
 clear R m w U x y z;rintro Q' hQ' O S ⟨j,hj,m,w,B,C,D,t,E,G,g',o⟩;by_cases d:j<i
 ·obtain⟨g4,L,v4⟩:=id o.outer;by_cases X:j=piv
  ·subst X;simp -dsimp only[go_sem,aa,aX,m,w,B,C,D,t,E,G,d,beq_self_eq_true]
   repeat refine an ?_
   refine au.intro fun f u=>?_;have q:l≠f:=aR.fresh o.outer u;have r:f≠l:=q.symm;have I:=o.push dc u L (fun _=>.int .i64 0)
   have wpp:IntKind.i64.wrap (p*p)=p*p:=i64_in om om;simp -dsimp only[go_sem,d,L,q,r,dr,wpp,aM (om:j<1000000),bT]
   have s:=I.put dc (om:j<j+1) (g':=fun _=>.int .i64 0) (by rw[if_pos rfl,aH r,bR]) j (.int .i64 (p*p))
   rw[show(if j=j then f else g' j)=f from if_pos rfl]at s
   refine⟨⟨j+1,om,rfl,_,s.congr fun a c ha hc=>?_⟩,om⟩
   by_cases ea:a=j
   ·subst ea;simp only[true_and,if_true,gn];by_cases ec:c=a
    ·rw[if_pos ec,if_pos ec]
    ·rw[if_neg ec,if_neg ec]
   ·rw[if_neg (fun h=>ea h.1),if_neg ea]
  ·have hjb:((j:Int)==(piv:Int))=false:=by simp;omega
   simp -dsimp only[go_sem,aa,aX,m,w,B,C,D,t,E,G,d,hjb]
   repeat refine an ?_
   refine au.intro fun f u=>?_;have q:l≠f:=aR.fresh o.outer u;have r:f≠l:=q.symm;have I:=o.push dc u L (fun _=>.int .i64 0)
   simp -dsimp only[go_sem,d,L,q,r,dr];have s:=I.put dc (om:j<j+1) (g':=fun _=>.int .i64 0) (by rw[if_pos rfl,aH r,bR]) j (.int .i64 p)
   rw[show(if j=j then f else g' j)=f from if_pos rfl]at s
   refine lM (fun T=>∃gg,eQ 29 2 1 S1 T l gg i i (j+1) (fun a c=>if a=j then .int .i64 (if c=j then p else 0)else .int .i64 (gn p piv (fun j=>fC i H p v j*inv%p) c a))) ⟨_,s.congr fun a c ha hc=>?_⟩ ?_
   ·by_cases ea:a=j
    ·subst ea;simp only[true_and,if_true];by_cases ec:c=a
     ·rw[if_pos ec,if_pos ec]
     ·rw[if_neg ec,if_neg ec]
    ·rw[if_neg (fun h=>ea h.1),if_neg ea,if_neg ea]
   clear o I s L v4 q r;rintro T ⟨gg,hT⟩;obtain⟨go,uo,vo⟩:=id hT.outer;obtain⟨gr,ur,vr⟩:=id (hT.row j om);have Y:=Z.ext hT.ext;obtain⟨gx,ux,vx⟩:=id Y.outer;obtain⟨gy,uy,vy⟩:=id (Y.row j d);have xo:go j=.sl 1 (gg j) 0 i:=(vo j d).trans (if_pos om);have xx:gx j=.sl 1 (gw j) 0 1:=vx j d;have xy:gy 0=.int .i64 (fC i H p v j):=vy 0 om;obtain⟨w0,w1⟩:=r7 (n:=i) (H:=H) (v:=v) hp j;obtain⟨m0,m1⟩:=M _ _ w0 w1 Q.1 Q.2;obtain⟨q0,q1⟩:=hq j;obtain⟨r0,r1⟩:=M (p-1) _ om om q0 q1;have k1:IntKind.i64.wrap (0-p)=-p:=by rw[Int.zero_sub];exact i64_in om om
   have k2:IntKind.i64.wrap (fC i H p v j*inv)=fC i H p v j*inv:=i64_in om om;have k3:(fC i H p v j*inv).tmod p=fC i H p v j*inv%p:=Int.tmod_eq_emod_of_nonneg m0;have k4:IntKind.i64.wrap (-p*(fC i H p v j*inv%p))=-p*(fC i H p v j*inv%p):=by
    rw[Int.sub_mul,cF]at r0 r1;rw[Int.neg_mul];exact i64_in om om
   have hp0:¬p=0:=om
   refine aP 19 kr ?_
   simp -dsimp only[go_sem,aa,aX,m,w,B,C,D,t,E,G,d,uo,ur,ux,uy,xo,xx,xy,g,k1,k2,k3,k4,hp0,aM (om:j<1000000),bT]
   repeat refine an ?_
   refine⟨⟨j+1,om,rfl,gg,(hT.put dc (om:j<j+1) ur piv (.int .i64 (-p*(fC i H p v j*inv%p)))).congr fun a c ha hc=>?_⟩,om⟩
   by_cases ea:a=j
   ·subst ea;simp only[true_and,if_true,gn];rw[if_neg X];by_cases ec:c=piv
    ·rw[if_pos ec,if_neg om,if_pos ec,Int.neg_mul]
    ·rw[if_neg ec];by_cases J:c=a
     ·rw[if_pos J,if_pos J]
     ·rw[if_neg J,if_neg J,if_neg ec]
   ·rw[if_neg (fun h=>ea h.1),if_neg ea]
 have hji:j=i:=om
 rw[hji]at o;have hN2:=o.imat (A:=fun j i'=>gn p piv (fun j=>fC i H p v j*inv%p) i' j) (fun _ _ _ _=>rfl);simp -dsimp only[go_sem,aa,m,w,B,C,D,t,E,G,d];rw[hQ'];simp -dsimp only[go_sem,t];exact⟨l,rfl,g',hN2.1⟩

end Go.Proofs.YtdobfmlmenaajaaGreatDoor
