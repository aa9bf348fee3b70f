/-Lemmas.-/
import Derived.Test.YtdobfmlmenaajaaGreatDoorL33
import Derived.Test.YtdobfmlmenaajaaGreatDoorL25
namespace Go.Proofs.YtdobfmlmenaajaaGreatDoor
open Go.RowKit Tryz
open _root_.Classical renaming byContradiction→cU
open _root_.Int renaming mul_le_mul→bW,mul_comm→bZ,natCast_nonneg→di,lt_or_le→gW,eq_ofNat_of_zero_le→jI,ofNat_sub→rW,neg_mul_neg→uX
open _root_.List renaming not_mem_nil→aG,forall_mem_cons→aO,length_cons→cw,mem_cons→du,length_nil→iu
open _root_.Nat renaming add_one_le_iff→aa,le_refl→af,zero_add→aJ
open _root_.Ne renaming symm→ai
open _root_.Option renaming none→ae
open _root_.Or renaming inr→aK,inl→bn
set_option maxHeartbeats 6400000
set_option maxRecDepth 4096
set_option linter.all false
attribute [local go_sem] Nat.reduceAdd Nat.reduceEqDiff Nat.reduceLeDiff Nat.reduceLT reduceCtorEq Int.ofNat_lt decide_true decide_false Int.zero_le_ofNat
attribute [local go_sem ↓] reduceIte
variable{K post post':AV->St->Prop}{a x:Int}{args args':List AV}{P X b c d f k m n p:Nat}{g v:Nat->Nat}{S S1 T:St}{O:Tm}{A H Q:aB}
theorem b9{α:Type}[BEq α][LawfulBEq α](a:α):(a != a)=false:=bne_self_eq_false a
theorem e9{α:Type}[BEq α][LawfulBEq α](a:α):(a==a)=true:=beq_self_eq_true a
structure BD(n p:Nat)(H:aB)(v:Nat->Nat)(Q:aB):Prop where
 ex:∃B,lH n p H v B/\∀i j,i<n->j<n->mm n (mm n (fun i j=>B j i) H) B i j=p*p*Q i j
 ent:∀i j,i<n->j<n->(Q i j).natAbs<=246591576450
 cut:∀i j,¬(i<n/\j<n)->Q i j=0
theorem BD.uniq{Q':aB}(m:gH n H)(e:p∈cM)(h:BD n p H v Q)(h':BD n p H v Q'):Q=Q':=by
 obtain⟨B,o,q⟩:=h.ex;obtain⟨B',b,c⟩:=h'.ex;have r:3<=p:=by
  have d:=e;simp only[cM,du,aG,or_false]at d;omega
 have f:=o.uniq m e b;funext i j;by_cases a:i<n/\j<n
 ·refine Int.eq_of_mul_eq_mul_left (show(p:Int)*p≠0 by have:(0:Int)<p*p:=Int.mul_pos om om;omega) ?_
  rw[<-q i j a.1 a.2,<-c i j a.1 a.2];exact pM (fun k g=>pM (fun l s=>f l i s a.1) (fun _ _=>rfl)) (fun k g=>f k j g a.2)
 ·rw[h.cut i j a,h'.cut i j a]
theorem BD.qf(a:gH n H)(j:j9 (det n H) p)(c:p∈cM)(f:kU n p H v)(h:BD n p H v Q):QF n Q:=by
 obtain⟨B,b,e⟩:=h.ex;have g:3<=p:=by
  have d:=c;simp only[cM,du,aG,or_false]at d;omega
 have i:=Cy (p:=(p:Int)) om b.tri.1 b.tri.2.1 (b.det c f) e;exact⟨b.qpd a c e,a.one,a.five,h.ent,by rw[i];exact a.small⟩
def qY(n:Nat)(Q:aB):aB:=fun i j=>if i<n/\j<n then Q i j else 0
theorem yF(S:St)(n c:Nat)(gc:Nat->Nat)(Q:aB)(h:QF n Q)(a:dd S c gc n n Q) :
  cL 42 [.sl 1 c 0 n] S (fun r S'=>∃b g S1,r=.tup [.sl 1 b 0 n,aV n n (jf n Q),.int .i64 0]/\kS S1 S' b g n n (oa n Q)/\cY S S1):=by
 refine ak func42 rfl 26 ntmps42 kr sm (by simp[results42]) ?_
 rw[aF,results42];simp -dsimp only[go_sem,aa];refine(yY S n c gc Q h a).mono ?_;rintro _ S1 ⟨b,g,bt,gt,S0,rfl,d,e,f⟩;simp -dsimp only[go_sem,aa,b9];have k:=h.one;have o:=h.five;refine(BF n 86 (su n Q) k om om om (fun i j l m=>h.unb l m) h.uni).spec (dT.one d.vr.va) ?_;simp -dsimp only[go_sem];exact⟨b,rfl,g,S0,e,f⟩
structure FrmO(S S':St)(n:Nat)(Q:aB)(b c:Nat)(g gc:Nat->Nat):Prop where
 r:cT S' b g n n (oa n Q)
 t:cT S' c gc n n (jf n Q)
 ext:cY S S'
 nb:S b=ae
 nc:S c=ae
 nbr:∀i,i<n->S (g i)=ae
 ncr:∀i,i<n->S (gc i)=ae
 bc:b≠c
 rr:∀i j,i<n->j<n->g i≠gc j
theorem qy(S:St)(d n p:Nat)(H:aB)(v:Nat->Nat)(u:gH n H)(w:j9 (det n H) p)(x:p∈cM)(y:kU n p H v)(I:aR S d 2 1 n (fun k=>.int .i64 ((v k:Nat):Int)))(J:iT S) :
  cL 14 [ax n n H,.int .i64 p,.sl 1 d 0 n] S (fun r S'=>∃Q b c g gc,r=.tup [.sl 1 b 0 n,.sl 1 c 0 n,.int .i64 0]/\BD n p H v Q/\FrmO S S' n Q b c g gc):=by
 refine ak func14 rfl 43 ntmps14 kr sm (by simp[results14]) ?_
 rw[aF,results14];simp -dsimp only[go_sem,aa];refine(oe S d n p H v u w x y I J).mono ?_;rintro _ S1 ⟨bb,cq,gq,B,Q0,rfl,z,l,A,m⟩;have C:BD n p H v (qY n Q0):=⟨⟨B,z,fun i j a e=>by rw[(l i j a e).1];unfold qY;rw[if_pos ⟨a,e⟩]⟩,fun i j a e=>by unfold qY;rw[if_pos ⟨a,e⟩];exact(l i j a e).2,fun i j h=>by unfold qY;rw[if_neg h]⟩
 have s:dd S1 cq gq n n (qY n Q0):=A.congr fun i j a e=>by unfold qY;rw[if_pos ⟨a,e⟩]
 have q:=C.qf u w x y;generalize qY n Q0=Q at *;clear A l z;simp -dsimp only[go_sem,aa,b9];refine(yF S1 n cq gq Q q s).mono ?_;rintro _ S2 ⟨b,g,S0,rfl,K,o⟩;simp -dsimp only[go_sem,aa,b9];have D:=q.one;have R:=q.five;refine(o9 n n (jf n Q) D om D om (fun i j a e=>by have:=q.wfit a e;unfold iF;omega) _ _ (cD _ _)).mono ?_
 rintro _ S3 ⟨c,gc,rfl,L⟩;simp -dsimp only[go_sem];obtain⟨t,M,N,O⟩:=K;obtain⟨P,E,F,G⟩:=L;have f:=(m.trans o).trans M;refine⟨Q,b,c,rfl,C,g,gc,t.ext E,P,f.trans E,(m.trans o).none N,f.none F,fun i a=>(m.trans o).none (O i a),fun i a=>f.none (G i a),aR.fresh t.outer F,fun i j a e=>aR.fresh (t.row i a) (G j e)⟩

theorem AE(n:Nat)(A:aB)(h:Nat)(t:1<=n)(w:n<=8)(o:∀i j,i<n->j<n->nb (A i j) h)(x:h<=500000)(r:jy A n):PF 58 [aV n n A] (.bool true):=by
 refine PF.of_spec (ak func58 rfl 38 ntmps58 kr sm (by simp[results58]) ?_)
 rw[aF,results58];simp -dsimp only[go_sem,aa];refine(rI n A h t om o om).call ?_;simp -dsimp only[go_sem,aV];refine aI (fun O S=>∃i:Nat,i<=n/\O 0=aV n n A/\O 3=bA n (fun k=>det (k+1) A)/\O 13=.int .i64 n/\O 14=.int .i64 i) (fun O S=>n-bT (O 14)) ?_ ?_
 ·simp -dsimp only[go_sem,aV,bA];exact⟨0,om,rfl⟩
 ·rintro O S ⟨i,y,e,f,a,b⟩;by_cases c:i<n
  ·simp -dsimp only[go_sem,a,b,c];refine aI (fun O S=>∃j:Nat,j<=i/\O 0=aV n n A/\O 3=bA n (fun k=>det (k+1) A)/\O 5=.int .i64 i/\O 6=.int .i64 j/\O 13=.int .i64 n/\O 14=.int .i64 i) (fun O S=>n-bT (O 6)) ?_ ?_
   ·simp -dsimp only[go_sem,e,f,a,b];exact⟨0,om,rfl⟩
   ·clear e f a b;rintro O S ⟨j,z,e,f,l,m,a,b⟩;by_cases d:j<i
    ·have u:=r.1 i c j d;have p:decide (2*((eB A i j).natAbs:Int)<=det (j+1) A)=true:=by simpa [fM]using u
     simp -dsimp only[go_sem,aa,e,f,l,m,a,b,d];refine(C9 n i j A h d c om o om).call ?_;rw[p];simp -dsimp only[go_sem,e,f,l,m,a,b,aM (om:j<1000000),bT]
     exact⟨⟨j+1,om,rfl⟩,om⟩
    ·by_cases s:0<i
     ·have g:(0:Int)<(i:Int):=om
      have v:=r.2 i s c;have q:decide (3*(det i A*det i A)<=4*(det (i-1) A*det (i+1) A+eB A i (i-1)*eB A i (i-1)))=true:=by simpa [gZ]using v
      simp -dsimp only[go_sem,aa,e,f,l,m,d,g];refine(Ab n i A h s c om o om).call ?_;rw[q];simp -dsimp only[go_sem,e,f,l,a,b,g,aM (om:i<1000000),bT]
      exact⟨⟨i+1,om,rfl⟩,om⟩
     ·obtain rfl:i=0:=om
      simp -dsimp only[go_sem,aa,e,f,l,m,a,b,show((0:Nat):Int)=0 from rfl,Int.lt_irrefl,show IntKind.i64.wrap ((0:Int)+1)=1 from rfl,bT];exact⟨⟨1,om,rfl⟩,by simp;omega⟩
  ·simp -dsimp only[go_sem,a,b,c];exact VR.mf rfl
theorem qw(n:Nat)(H:aB)(a:gH n H):PF 21 [ax n n H] (.bool true):=by
 have c:=a.one;have k:=a.five;have d:∀i j,i<n->j<n->nb (H i j) 17:=fun i j e f=>a.ent.nb e f;refine PF.of_spec (ak func21 rfl 24 ntmps21 kr sm (by simp[results21]) ?_)
 rw[aF,results21];simp -dsimp only[go_sem,aa];refine(tz _ n n H c om c om (fun i j e f=>a.ent.r64 e f)).mono ?_;rintro _ S1 ⟨b,g,rfl,h⟩;simp -dsimp only[go_sem,aa];refine(nk n H 17 c om d om a.red.pd.sym true (by simpa using a.red.pd.pos)).spec (dT.one h.vr.va) ?_
 simp -dsimp only[go_sem,aa];refine(zw n H 17 c om d om).spec (dT.one h.vr.va) ?_;rw[show decide (det n H<=10000)=true by simpa using a.small]
 simp -dsimp only[go_sem,aa];refine(AE n H 17 c om d om a.red.rows).spec (dT.one h.vr.va) ?_;simp -dsimp only[go_sem];exact VR.mf rfl
theorem GJ(n:Nat)(A:aB)(g:n<=16):PF 22 [ax n n A,.int .i64 n] (.bool true):=by
 refine PF.of_spec (ak func22 rfl 22 ntmps22 kr sm (by simp[results22]) ?_)
 rw[aF,results22];simp -dsimp only[go_sem,ax,aX];refine aI (fun O S=>∃i:Nat,i<=n/\O 0=ax n n A/\O 1=.int .i64 n/\O 7=ax n n A/\O 8=.int .i64 n/\O 9=.int .i64 i) (fun O S=>n-bT (O 9)) ?_ ?_
 ·simp -dsimp only[go_sem,ax,aX];exact⟨0,om,rfl⟩
 ·rintro O S ⟨i,h,b,c,d,e,f⟩;by_cases a:i<n
  ·simp -dsimp only[go_sem,ax,aX,b,c,d,e,f,a,b9,aM (om:i<1000000),bT]
   exact⟨⟨i+1,om,rfl⟩,om⟩
  ·simp -dsimp only[go_sem,ax,aX,b,c,d,e,f,a,e9];exact VR.mf rfl
def mesL(S:St)(c i:Nat)(B:Int):Nat:=match S c with
 | some X=>match X.g i with
  | .int _ z=>(B-z).toNat
  | _=>0
 | ae=>0

theorem oD(n m:Nat)(A:aB)(p:n<=16)(q:m<=16):PF 20 [ax n m A,ax n m A] (.bool true):=by
 refine PF.of_spec (ak func20 rfl 53 ntmps20 kr sm (by simp[results20]) ?_)
 rw[aF,results20];simp -dsimp only[go_sem,ax,aX,b9];refine cg (fun O S=>∃i:Nat,i<=n/\O 0=ax n m A/\O 1=ax n m A/\O 13=.int .i64 n/\O 14=.int .i64 i) (fun O S=>n-bT (O 14)) ?_ ?_
 ·simp -dsimp only[go_sem,ax,aX];exact⟨0,om,rfl⟩
 rintro Q' k O S ⟨i,r,g,h,a,b⟩;by_cases c:i<n
 ·simp -dsimp only[go_sem,a,b,c,ax,aX];refine aP 11 kr ?_
  simp -dsimp only[go_sem,aa,g,h,c,ax,aX,b9];refine cg (fun O S=>∃j:Nat,j<=m/\O 0=ax n m A/\O 1=ax n m A/\O 5=.int .i64 i/\O 13=.int .i64 n/\O 14=.int .i64 i/\O 32=.int .i64 m/\O 33=.int .i64 j) (fun O S=>m-bT (O 33)) ?_ ?_
  ·simp -dsimp only[go_sem,g,h,a,b,ax,aX];exact⟨0,om,rfl⟩
  clear g h a b;clear O S;rintro Q2 l O S ⟨j,s,g,h,o,a,b,d,e⟩;by_cases f:j<m
  ·simp -dsimp only[go_sem,d,e,f,ax,aX];refine aP 15 kr ?_
   simp -dsimp only[go_sem,aa,g,h,o,a,b,d,e,c,f,ax,aX,b9,aM (om:j<1000000),bT]
   exact⟨⟨j+1,om,rfl⟩,om⟩
  ·simp -dsimp only[go_sem,d,e,f];rw[l];simp -dsimp only[go_sem,g,h,a,b,aM (om:i<1000000),bT]
   exact⟨⟨i+1,om,rfl,rfl,rfl⟩,om⟩
 ·simp -dsimp only[go_sem,a,b,c];rw[k];simp -dsimp only[go_sem];exact VR.mf rfl
theorem uW(n:Nat)(M:Int)(A:aB)(h1:1<=n)(hn:n<=16)(W:0<M)(H:M<=1000000000000):PF 19 [ax n n A,.int .i64 M] (ax n n (fun i j=>A i j%M)):=by
 refine PF.of_spec (ak func19 rfl 36 ntmps19 kr sm (by simp[results19]) ?_)
 rw[aF,results19];simp -dsimp only[go_sem,ax,aX];refine cg (fun O S=>∃(i:Nat) (x:AV) (g:Nat->Nat),i<=n/\O 1=.int .i64 M/\O 5=x/\O 11=ax n n A/\O 12=.int .i64 n/\O 13=.int .i64 i /\
  cC 29 1 St.none S x i (fun a=>.sl 1 (g a) 0 n)/\(∀a,a<i->l8 S (g a) n (fun j=>A a j%M))) (fun O S=>n-bT (O 13)) ?_ ?_
 ·simp -dsimp only[go_sem,ax,aX];exact⟨0,om,rfl,fun _=>0,cC.nil (cY.refl _) _,fun a o=>om⟩
 rintro Q' I O S ⟨i,x,g,hi,r,s,b,f,k,m,t⟩;by_cases D:i<n
 ·simp -dsimp only[go_sem,b,f,k,D,ax,aX];refine cg (fun O S'=>∃(j:Nat) (y:AV),j<=n/\O 1=.int .i64 M/\O 5=x/\O 8=y/\O 11=ax n n A/\O 12=.int .i64 n/\O 13=.int .i64 i/\O 17=aX n (A i)/\O 18=.int .i64 n/\O 19=.int .i64 j /\
   cC 29 1 St.none S' x i (fun a=>.sl 1 (g a) 0 n)/\(∀a,a<i->l8 S' (g a) n (fun j=>A a j%M)/\¬dl y (g a))/\cC 2 1 St.none S' y j (fun c=>.int .i64 (A i c%M))/\∀d,dl x d->¬dl y d) (fun O S=>n-bT (O 19)) ?_ ?_
  ·simp -dsimp only[go_sem,r,s,b,f,k,ax,aX];exact⟨0,om,rfl,m,fun a o=>⟨t a o,by rintro⟨_,_,_,e⟩;cases e⟩,cC.nil m.1 _,fun d _=>by rintro⟨_,_,_,e⟩;cases e⟩
  clear r s b f k m t;clear O S;rintro Q2 J O S ⟨j,y,hj,r,s,C,b,f,k,u,v,w,m,t,P,z⟩;by_cases E:j<n
  ·simp -dsimp only[go_sem,aa,r,C,u,v,w,E,aX];refine(BE (a:=A i j) W H).call ?_;simp -dsimp only[go_sem,r,C];refine au.intro fun bw fw=>?_
   try simp -dsimp only[go_sem,C]
   refine cC.appx rfl rfl rfl ((cY.refl S).upd fw _) P om (show dN 1 (.int .i64 (A i j%M))from by simp[dN]) ⟨_,_,_,rfl,bR,rfl,fw⟩ ?_
   intro c S2 F l p;simp -dsimp only[go_sem,r,s,C,b,f,k,u,v,w,aM (om:j<1000000),bT]
   refine⟨⟨j+1,om,rfl,rfl,m.keep F.1 l z,fun a o=>?_,F.congr fun a o=>?_,fun d Q R=>?_⟩,om⟩
   ·obtain⟨T,U⟩:=t a o;obtain⟨gg,X,Y⟩:=id T;refine⟨⟨gg,l _ _ X U,Y⟩,fun V=>?_⟩;rw[dk]at V;rw[<-V]at p;rcases p with h|h
    ·exact U h
    ·exact aR.fresh T h rfl
   ·by_cases e:a=j
    ·subst e;rw[if_pos rfl]
    ·rw[if_neg e]
   ·rw[dk]at R;subst R;rcases p with h|h
    ·exact z d Q h
    ·exact m.fresh h d Q rfl
  ·obtain rfl:j=n:=om
   rcases P.2 with⟨Z,_⟩|⟨c,_,rfl,K⟩
   ·omega
   simp -dsimp only[go_sem,aa,r,C,u,v,w,E];rw[J];simp -dsimp only[go_sem,s,C];refine au.intro fun bw fw=>?_
   try simp -dsimp only[go_sem,s]
   refine cC.appx rfl rfl rfl ((cY.refl S).upd fw _) m om (show dN 1 (.sl 1 c 0 j)from trivial) ⟨_,_,_,rfl,bR,rfl,fw⟩ ?_;intro d S2 L l p;have N:¬dl x c:=fun h=>z c h (dk.2 rfl);simp -dsimp only[go_sem,r,s,b,f,k,aM (om:i<1000000),bT]
   refine⟨⟨i+1,om,rfl,rfl,fun a=>if a=i then c else g a,L.congr fun a o=>by grind,fun a o=>?_⟩,om⟩
   by_cases e:a=i
   ·subst e;simp only[if_true];obtain⟨gg,q,B⟩:=K;exact⟨gg,l _ _ q N,B⟩
   ·simp only[e,if_false];obtain⟨gg,q,B⟩:=(t a om).1;exact⟨gg,l _ _ q (m.other q om),B⟩
 have G:i=n:=om
 rw[G]at m t;rcases m.2 with⟨Z,_⟩|⟨c,_,rfl,K⟩
 ·omega
 simp -dsimp only[go_sem,aa,b,f,k,D];rw[I];simp -dsimp only[go_sem,s];exact VR.sl K om fun a o=>by rw[aJ];exact(t a o).vr

theorem redF(h:QF n Q):gH n (oa n Q):=⟨h.one,h.five,h.red.1,by rw[h.red.2];exact h.dt⟩
def ND(S:St)(b n:Nat)(g:Nat->Nat):Prop:=aR S b 29 1 n (fun i=>.sl 1 (g i) 0 n)/\∀i,i<n->∃z,S (g i)=some ⟨2,1,n,z⟩
theorem cT.wr(h:cT S b g n n A):ND S b n g:=⟨h.outer,fun i a=>by obtain⟨z,c,_⟩:=h.row i a;exact⟨z,c⟩⟩
theorem ND.set(h:ND S b n g){z:Nat->AV}(u:∃z0,S c=some ⟨2,1,n,z0⟩):ND (S.upd c ⟨2,1,n,z⟩) b n g:=by
 obtain⟨z0,u⟩:=u;refine⟨h.1.upd (aR.ne h.1 (aR.of u) dc) _,fun i a=>?_⟩
 by_cases e:g i=c
 ·exact⟨z,by rw[e];exact bR⟩
 ·obtain⟨d,f⟩:=h.2 i a;exact⟨d,by rw[aH e];exact f⟩
def KpO(n:Nat)(g gc:Nat->Nat)(S S':St):Prop:=∀d X,(∀i,i<n->d≠g i/\d≠gc i)->S d=some X->S' d=some X
theorem KpO.has{gc:Nat->Nat}{S':St}(h:KpO n g gc S S'){b ty es k:Nat}{z:Nat->AV}(a:∀i,i<n->b≠g i/\b≠gc i)(c:aR S b ty es k z):aR S' b ty es k z:=by
 obtain⟨z',d,e⟩:=c;exact⟨z',h b _ a d,e⟩
theorem F7(P:∀S,iT S->cL 12 [] S (fun r S'=>r=.bool true/\cY S S'))(S0:St)(hG:iT S0)(d k L:Nat)(nums:Nat->Int)(Lb:Nat)(base:Nat->AV)(q t:Nat)(R:d<256)(hk:k<256)(hq:q<256)(ht:t<65536)(hnums:∀i,i<L->-128<=nums i/\nums i<=127) :
  cL 6 [xQ d k L nums Lb base q t] S0 (fun r S'=>r=.bool true/\cY S0 S'):=by
 refine ak func6 rfl 111 ntmps6 kr sm (by simp[results6]) ?_
 rw[aF,results6];simp -dsimp only[go_sem,aa,xQ,dD,aO,aG,false_implies,implies_true];refine au.intro fun b1 f1=>?_;simp -dsimp only[go_sem,List.getD_cons_zero,List.getD_cons_succ];have x:cY S0 (S0.upd b1 ⟨27,1,6,fun j=>[AV.int .u8 d,.int .u8 k,.lst 1 L (fun i=>.int .i8 (nums i)),.lst 1 Lb base,.int .u8 q,.int .u16 t].getD j .any⟩):=(cY.refl S0).upd f1 _;have T:iT (S0.upd b1 ⟨27,1,6,fun j=>[AV.int .u8 d,.int .u8 k,.lst 1 L (fun i=>.int .i8 (nums i)),.lst 1 Lb base,.int .u8 q,.int .u16 t].getD j .any⟩):=hG.ext ((cY.refl S0).upd f1 _);refine(F2 _ d k L nums Lb base q t R hk hq ht hnums).mono ?_;rintro r S1 ⟨u,n,H,p,N,hg,U,hR⟩;have V:=T.ext u;rcases hR with rfl|⟨dv,v,rfl,hv,_,hL⟩
 ·simp -dsimp only[go_sem,aa];refine(P S1 V).mono ?_;rintro _ S2 ⟨rfl,hE2⟩;simp -dsimp only[go_sem];exact(x.trans u).trans hE2
 have h1:=N.one;have hn:=N.five;have hp:=hg.six U;have W:=x.trans u;clear x u T f1;simp -dsimp only[go_sem,aa];refine(uW n 2147483647 H h1 om om om).call ?_;simp -dsimp only[go_sem];refine zU hv om om ?_;intro lb lh hlb hlh;simp -dsimp only[go_sem,aa];have y:=(cY.refl S1).upd hlb ⟨2,1,n,lh⟩;have Y:aR (S1.upd lb ⟨2,1,n,lh⟩) lb 2 1 n (fun k=>.int .i64 ((v k:Nat):Int)):=aR.here hlh;have A:=y.has hv;have B:=V.ext y;have w:=W.trans y;generalize S1.upd lb ⟨2,1,n,lh⟩=S2 at *;refine(qy S2 dv n p H v N hg hp hL A B).mono ?_;rintro _ S3 ⟨Q,b,c,g,gc,rfl,hQ,f⟩;have Z:=f.ext.has A;have hl3:=f.ext.has Y;have hG4:=B.ext f.ext;simp -dsimp only[go_sem,aa];refine(qy S3 dv n p H v N hg hp hL Z hG4).mono ?_;rintro _ S4 ⟨Q',b',c',g',gc',rfl,hQ',e⟩;obtain rfl:=hQ.uniq N hp hQ';have hqf:=hQ.qf N hg hp hL;have hE4:=(w.trans f.ext).trans e.ext;have hG5:=hG4.ext e.ext;have C:cT S4 b g n n (oa n Q):=f.r.ext e.ext;have D:cT S4 c gc n n (jf n Q):=f.t.ext e.ext;have hv4:=e.ext.has Z;have hl4:=e.ext.has hl3;simp -dsimp only[go_sem,aa,b9];refine(oD n n (oa n Q) om om).spec (dT.two C.vr.va e.r.vr.va) ?_;simp -dsimp only[go_sem,aa];refine(oD n n (jf n Q) om om).spec (dT.two D.vr.va e.t.vr.va) ?_;simp -dsimp only[go_sem,aa];refine(qw n (oa n Q) (redF hqf)).spec (dT.one C.vr.va) ?_;simp -dsimp only[go_sem,aa];refine(GJ n (jf n Q) om).spec (dT.two D.vr.va (VA.refl _ _)) ?_;simp -dsimp only[go_sem];have kf:∀{bb ty es m:Nat} {z:Nat->AV},aR S2 bb ty es m z->∀i,i<n->bb≠g i/\bb≠gc i:=fun hh i o=>⟨aR.fresh hh (f.nbr i o),aR.fresh hh (f.ncr i o)⟩;have hfb:∀i,i<n->b'≠g i/\b'≠gc i:=fun i o=>⟨ai (aR.fresh (f.r.row i o) e.nb),ai (aR.fresh (f.t.row i o) e.nb)⟩;have hfr:∀a,a<n->∀i,i<n->g' a≠g i/\g' a≠gc i:=fun a ha i o=>⟨ai (aR.fresh (f.r.row i o) (e.nbr a ha)),ai (aR.fresh (f.t.row i o) (e.nbr a ha))⟩;refine cg (fun O S=>∃i:Nat,i<=n/\O 3=ax n n H/\O 5=.sl 1 dv 0 n/\O 7=ax n n (fun i j=>H i j%2147483647)/\O 8=.sl 1 lb 0 n/\O 9=.sl 1 b 0 n/\O 10=.sl 1 c 0 n/\O 12=.sl 1 b' 0 n/\O 77=.int .i64 n/\O 78=.int .i64 i/\ND S b n g/\ND S c n gc/\KpO n g gc S4 S) (fun O S=>n-bT (O 78)) ?_ ?_
 ·simp -dsimp only[go_sem];exact⟨0,om,rfl,C.wr,D.wr,fun _ _ _ h=>h⟩
 rintro Q2 hQ2 O S ⟨i,o,E,e5,F,e8,e9,e10,e12,G,I,J,K,M⟩;by_cases l:i<n
 ·obtain⟨z1,u1,v1⟩:=id J.1;obtain⟨z2,u2,v2⟩:=id K.1;obtain⟨z3,u3⟩:=J.2 i l;obtain⟨z4,u4⟩:=K.2 i l;have x1:z1 i=.sl 1 (g i) 0 n:=v1 i l;have x2:z2 i=.sl 1 (gc i) 0 n:=v2 i l;have hne:=f.rr i i l l;simp -dsimp only[go_sem,G,I,l];refine aP 10 kr ?_
  simp -dsimp only[go_sem,aa,E,e5,F,e8,e9,e10,e12,G,I,l,u1,x1,u2,x2,u3,u4,ai hne,(om:0<n),aM (om:i<1000000),bT]
  repeat refine an ?_
  have t1:=J.set (c:=g i) (z:=aL z3 i (.int .i64 (-1))) ⟨z3,u3⟩;have t2:=K.set (c:=g i) (z:=aL z3 i (.int .i64 (-1))) ⟨z3,u3⟩;have u4':(S.upd (g i) ⟨2,1,n,aL z3 i (.int .i64 (-1))⟩) (gc i)=some ⟨2,1,n,z4⟩:=(aH (ai hne)).trans u4;refine⟨⟨i+1,om,rfl,t1.set ⟨z4,u4'⟩,t2.set ⟨z4,u4'⟩,fun d X R hX=>?_⟩,om⟩
  rw[aH (R i l).2,aH (R i l).1];exact M d X R hX
 have hin':i=n:=om
 simp -dsimp only[go_sem,G,I,l];rw[hQ2];simp -dsimp only[go_sem,aa,E,F];refine(uW n 2147483647 H h1 om om om).call ?_;simp -dsimp only[go_sem,aa,E,F];refine(oD n n (fun i j=>H i j%2147483647) om om).call ?_;simp -dsimp only[go_sem,E,F,e8];have hvS:=M.has (kf A) hv4;have hlS:=M.has (kf Y) hl4;refine au.intro fun bx fx=>?_
 try simp -dsimp only[go_sem,E,e5,F,e8]
 refine au.intro fun bw fw=>?_;have nw_x:=(ag fw).1
 try simp -dsimp only[go_sem,E,e5,F,e8]
 have fw':=(ag fw).2;have s:cY S ((S.upd bx ⟨29,1,1,fun j=>[AV.sl 1 lb 0 n].getD j .any⟩).upd bw ⟨29,1,1,fun j=>[AV.sl 1 dv 0 n].getD j .any⟩):=((cY.refl S).upd fx _).upd fw' _;have hI1:cT ((S.upd bx ⟨29,1,1,fun j=>[AV.sl 1 lb 0 n].getD j .any⟩).upd bw ⟨29,1,1,fun j=>[AV.sl 1 dv 0 n].getD j .any⟩) bx (fun _=>lb) 1 n (fun _ k=>((v k:Nat):Int)):=⟨(aR.here fun i o=>(by obtain rfl:i=0:=om;exact rfl)).upd (ai nw_x) _,fun i o=>s.has hlS,fun i j o hj _=>om⟩
 have hI2:cT ((S.upd bx ⟨29,1,1,fun j=>[AV.sl 1 lb 0 n].getD j .any⟩).upd bw ⟨29,1,1,fun j=>[AV.sl 1 dv 0 n].getD j .any⟩) bw (fun _=>dv) 1 n (fun _ k=>((v k:Nat):Int)):=⟨aR.here fun i o=>(by obtain rfl:i=0:=om;exact rfl),fun i o=>s.has hvS,fun i j o hj _=>om⟩
 refine(oD 1 n (fun _ k=>((v k:Nat):Int)) om om).spec (dT.two hI1.vr.va hI2.vr.va) ?_;generalize (S.upd bx ⟨29,1,1,fun j=>[AV.sl 1 lb 0 n].getD j .any⟩).upd bw ⟨29,1,1,fun j=>[AV.sl 1 dv 0 n].getD j .any⟩=S6 at *;simp -dsimp only[go_sem,aa,E,e5,F,e8,e12];have hs6:cT S6 b' g' n n (oa n Q):=⟨s.has (M.has hfb e.r.outer),fun a ha=>s.has (M.has (hfr a ha) (e.r.row a ha)),e.r.inj⟩;refine(qw n (oa n Q) (redF hqf)).spec (dT.one hs6.vr.va) ?_;simp -dsimp only[go_sem,aa];have hG6:iT S6:=by
  obtain⟨ty,hgl⟩:=id B;obtain⟨ty2,hgl2⟩:=id hG5;exact⟨ty2,s.has (M.has (kf hgl) hgl2)⟩
 refine(P S6 hG6).mono ?_;rintro _ S7 ⟨rfl,hE7⟩;simp -dsimp only[go_sem];intro d X hX;refine hE7 d X (s d X (M d X (fun i o=>?_) (hE4 d X hX)));have h2:=w d X hX;constructor
 ·rintro rfl;have:=f.nbr i o;rw[h2]at this;cases this
 ·rintro rfl;have:=f.ncr i o;rw[h2]at this;cases this

theorem EF(n:Nat)(a:Nat->Int)(g:n<=16):PF 52 [aX n a,aX n a] (.bool true):=by
 refine PF.of_spec (ak func52 rfl 26 ntmps52 kr sm (by simp[results52]) ?_)
 rw[aF,results52];simp -dsimp only[go_sem,aX,b9];refine aI (fun O S=>∃i:Nat,i<=n/\O 0=aX n a/\O 1=aX n a/\O 12=.int .i64 n/\O 13=.int .i64 i) (fun O S=>n-bT (O 13)) ?_ ?_
 ·simp -dsimp only[go_sem,aX];exact⟨0,om,rfl⟩
 ·rintro O S ⟨i,h,e,f,b,c⟩;by_cases d:i<n
  ·simp -dsimp only[go_sem,b,c,d,aX];refine aP 9 kr ?_
   simp -dsimp only[go_sem,aa,e,f,b,c,d,aX,b9,aM (om:i<1000000),bT]
   exact⟨⟨i+1,om,rfl⟩,om⟩
  ·simp -dsimp only[go_sem,b,c,d,aX];exact VR.mf rfl
theorem yu(n m:Nat)(A:aB)(h:n<=16)(g:m<=16):PF 51 [ax n m A,ax n m A,.fn 52 []] (.bool true):=by
 refine PF.of_spec (ak func51 rfl 32 ntmps51 kr sm (by simp[results51]) ?_)
 rw[aF,results51];simp -dsimp only[go_sem,ax,aX,b9];refine aI (fun O S=>∃i:Nat,i<=n/\O 1=ax n m A/\O 2=.fn 52 []/\O 15=ax n m A/\O 16=.int .i64 n/\O 17=.int .i64 i) (fun O S=>n-bT (O 17)) ?_ ?_
 ·simp -dsimp only[go_sem,ax,aX];exact⟨0,om,rfl⟩
 ·rintro O S ⟨i,j,e,f,a,b,c⟩;by_cases d:i<n
  ·simp -dsimp only[go_sem,aa,e,f,a,b,c,d,ax];refine(EF m (A i) g).call ?_;simp -dsimp only[go_sem,e,f,a,b,c,aM (om:i<1000000),bT]
   exact⟨⟨i+1,om,rfl,rfl,rfl⟩,om⟩
  ·simp -dsimp only[go_sem,aa,e,f,a,b,c,d,ax];exact VR.mf rfl
theorem B8(n:Nat)(A:aB)(g:n<=16):PF 49 [ax n n A,.int .i64 n] (.bool true):=by
 refine PF.of_spec (ak func49 rfl 22 ntmps49 kr sm (by simp[results49]) ?_)
 rw[aF,results49];simp -dsimp only[go_sem,ax,aX];refine aI (fun O S=>∃i:Nat,i<=n/\O 0=ax n n A/\O 1=.int .i64 n/\O 7=ax n n A/\O 8=.int .i64 n/\O 9=.int .i64 i) (fun O S=>n-bT (O 9)) ?_ ?_
 ·simp -dsimp only[go_sem,ax,aX];exact⟨0,om,rfl⟩
 ·rintro O S ⟨i,h,b,c,d,e,f⟩;by_cases a:i<n
  ·simp -dsimp only[go_sem,ax,aX,b,c,d,e,f,a,b9,aM (om:i<1000000),bT]
   exact⟨⟨i+1,om,rfl⟩,om⟩
  ·simp -dsimp only[go_sem,ax,aX,b,c,d,e,f,a,e9];exact VR.mf rfl
theorem yN(n:Nat)(a:Nat->Int)(h:n<=16)(f:∀i,i<n->nb (a i) 40):PF 214 [aX n a] (.bool true):=by
 refine PF.of_spec (ak func214 rfl 18 ntmps214 kr sm (by simp[results214]) ?_)
 rw[aF,results214];simp -dsimp only[go_sem,aX];refine aI (fun O S=>∃i:Nat,i<=n/\O 5=aX n a/\O 6=.int .i64 n/\O 7=.int .i64 i) (fun O S=>n-bT (O 7)) ?_ ?_
 ·simp -dsimp only[go_sem,aX];exact⟨0,om,rfl⟩
 ·rintro O S ⟨i,j,c,d,e⟩;by_cases b:i<n
  ·have g:=f i b;unfold nb at g;simp -dsimp only[go_sem,aX,c,d,e,b,(om:¬(a i < -1099511627776)),(om:¬(1099511627776<a i)),aM (om:i<1000000),bT]
   exact⟨⟨i+1,om,rfl⟩,om⟩
  ·simp -dsimp only[go_sem,aX,c,d,e,b];exact VR.mf rfl
theorem D3(n:Nat)(a:Nat->Int)(b:n<=16)(c:∀i,i<n->nb (a i) 40):PF 166 [.int .i64 n,aX n a] (.bool true):=by
 refine PF.of_spec (ak func166 rfl 13 ntmps166 kr sm (by simp[results166]) ?_)
 rw[aF,results166];simp -dsimp only[go_sem,aa,aX,e9];refine(yN n a b c).call ?_;simp -dsimp only[go_sem,e9];exact VR.mf rfl

theorem Iq(h:nb a k)(b:k<=62):IntKind.i64.wrap a=a:=by
 have c:=h.mono b;unfold nb at c;exact i64_in om om
theorem C1(n C D:Nat)(A:aB)(v:Nat->Int)(L:n<=16)(F:∀i j,i<n->j<n->nb (A i j) C)(G:∀j,j<n->nb (v j) D)(M:C+D<=50) :
  PF 167 [ax n n A,aX n v] (aX n (fun i=>aq n (fun j=>A i j*v j))):=by
 have E:∀i j,i<n->j<n->nb (A i j*v j) 50:=fun i j y p=>((F i j y p).mul (G j p)).mono om;have H:∀i t,i<n->t<=n->nb (aq t (fun j=>A i j*v j)) 60:=fun i t y I=>pL (n:=n) (k:=50) (fun j p=>E i j y p) om t I;refine PF.of_spec (ak func167 rfl 42 ntmps167 kr sm (by simp[results167]) ?_)
 rw[aF,results167];simp -dsimp only[go_sem,ax,aX]
 repeat refine an ?_
 refine au.intro fun bb fb=>?_
 try simp -dsimp only[go_sem]
 refine cg (fun O S=>∃i:Nat,i<=n/\O 1=aX n v/\O 5=.sl 1 bb 0 n/\O 13=ax n n A/\O 14=.int .i64 n/\O 15=.int .i64 i/\l8 S bb n (fun r=>if r<i then aq n (fun j=>A r j*v j)else 0)) (fun O S=>n-bT (O 15)) ?_ ?_
 ·simp -dsimp only[go_sem,ax,aX];exact⟨0,om,rfl,aR.here fun j p=>by simp⟩
 rintro Q' z O S ⟨i,y,x,q,a,b,c,s⟩;by_cases d:i<n
 ·simp -dsimp only[go_sem,a,b,c,d,ax,aX];refine cg (fun O S=>∃j:Nat,j<=n/\O 1=aX n v/\O 5=.sl 1 bb 0 n/\O 6=.int .i64 i/\O 13=ax n n A/\O 14=.int .i64 n/\O 15=.int .i64 i/\O 20=aX n (A i)/\O 21=.int .i64 n/\O 22=.int .i64 j /\
   l8 S bb n (fun r=>if r=i then aq j (fun j=>A i j*v j)else if r<i then aq n (fun j=>A r j*v j)else 0)) (fun O S=>n-bT (O 22)) ?_ ?_
  ·simp -dsimp only[go_sem,x,q,a,b,c,ax,aX];obtain⟨g,u,w⟩:=s;exact⟨0,om,rfl,g,u,fun r h=>(w r h).trans (by by_cases e:r=i<;>simp[e,aq])⟩
  clear x q a b c s;clear O S;rintro Q2 B O S ⟨j,p,x,q,J,a,b,c,l,m,o,s⟩;by_cases f:j<n
  ·obtain⟨g,u,w⟩:=id s;have K:g i=.int .i64 (aq j (fun j=>A i j*v j)):=(w i d).trans sm
   simp -dsimp only[go_sem,l,m,o,f,aX];refine aP 12 kr ?_
   simp -dsimp only[go_sem,aa,x,q,J,a,b,c,l,m,o,d,f,u,K,aX,Iq (E i j d f) om,show aq j (fun j=>A i j*v j)+A i j*v j=aq (j+1) (fun j=>A i j*v j)from rfl,Iq (H i (j+1) d f) om,aM (om:j<1000000),bT]
   exact⟨⟨j+1,om,rfl,_,bR,fun r h=>by
    by_cases e:r=i
    ·simp[aL,e]
    ·exact(if_neg e).trans ((w r h).trans (by simp[e]))⟩,om⟩
  ·simp -dsimp only[go_sem,aa,l,m,o,f];rw[B];simp -dsimp only[go_sem,x,q,a,b,c,aM (om:i<1000000),bT]
   obtain rfl:j=n:=om
   obtain⟨g,u,w⟩:=s;exact⟨⟨i+1,om,rfl,rfl,rfl,g,u,fun r h=>(w r h).trans (by
    by_cases e:r=i
    ·simp[e]
    ·simp[e,(om:r<i+1↔r<i)])⟩,om⟩
 ·simp -dsimp only[go_sem,aa,a,b,c,d];rw[z];simp -dsimp only[go_sem,q];obtain rfl:i=n:=om
  obtain⟨g,u,w⟩:=s;exact l8.vr ⟨g,u,fun r h=>(w r h).trans (by simp[h])⟩

def G1(S:St)(b P:Nat):Prop:=aR S b 202 1 2 (fun j=>if j=0 then .int .u64 0 else .int .u64 P)
theorem G1.put{g:Nat->AV}:G1 (S.upd b ⟨202,1,2,eJ g 0 [.int .u64 0,.int .u64 P]⟩) b P :=
 ⟨_,bR,fun j a=>by
  rcases (om:j=0∨j=1)with rfl|rfl<;>simp[eJ]⟩
theorem G1.get(h:G1 S b P):∃g,S b=some ⟨202,1,2,g⟩/\dD g 0 2=[.int .u64 0,.int .u64 P]:=by
 obtain⟨g,u,w⟩:=h;exact⟨g,u,by simp[dD,w 0 om,w 1 om]⟩
theorem pF(h:X<4294967296):IntKind.u64.wrap (X:Int)=X:=by rw[IntKind.wrap_u64];omega
theorem AK(h:X<4294967296):IntKind.i64.wrap (0-(-(X:Int)))=X:=by rw[show(0-(-(X:Int)))=X by omega];exact i64_in om om
def EH(S:St)(b c i:Nat)(a v:Nat->Int):Prop:=∃P N:Nat,G1 S b P/\G1 S c N/\(P:Int)-N=aq i (fun j=>a j*v j)/\P<=i*4503599627370496/\N<=i*4503599627370496
theorem DO(h:¬0<=x):∃X:Nat,x=-(X:Int)/\0<X:=⟨x.natAbs,om,om⟩
theorem EH.next{i Y N P' N':Nat}{a v:Nat->Int}(g:G1 S b P')(k:G1 S c N')(h:(P:Int)-N=aq i (fun j=>a j*v j))(bXY:X*Y<=4503599627370496)(bP:P<=i*4503599627370496)(bN:N<=i*4503599627370496)
  (d:(P'=P+X*Y/\N'=N/\a i*v i=(X:Int)*Y)∨(P'=P/\N'=N+X*Y/\a i*v i=-((X:Int)*Y))):EH S b c (i+1) a v:=by
 have e:((X*Y:Nat):Int)=(X:Int)*Y:=Int.natCast_mul X Y;have eK:=Nat.succ_mul i 4503599627370496;refine⟨P',N',g,k,?_,?_,?_⟩
 ·simp only[aq];rcases d with⟨rfl,rfl,f⟩|⟨rfl,rfl,f⟩<;>rw[f]<;>omega
 ·clear h e;rw[eK];generalize 4503599627370496=K at *;rcases d with⟨rfl,rfl,_⟩|⟨rfl,rfl,_⟩<;>omega
 ·clear h e;rw[eK];generalize 4503599627370496=K at *;rcases d with⟨rfl,rfl,_⟩|⟨rfl,rfl,_⟩<;>omega
theorem KP{a c B:Code}{Q:AX->Tm->St->Prop}(h:∀B,Aw (.seq a (.seq c B)) Q O S):Aw (.seq a (.seq c B)) Q O S:=h B
theorem Gi(n y z:Nat)(a v:Nat->Int)(R:n<=16)(E:∀i,i<n->nb (a i) y)(F:∀j,j<n->nb (v j) z)(H:y<=31)(I:z<=31)(J:y+z<=52) :
  PF 168 [aX n a,aX n v] (.tup [.int .i64 (aq n (fun j=>a j*v j)),.bool true]):=by
 refine PF.of_spec (ak func168 rfl 89 ntmps168 kr sm (by simp[results168]) ?_)
 rw[aF,results168];simp -dsimp only[go_sem,aX];refine au.intro fun bb fb=>?_
 try simp -dsimp only[go_sem]
 refine au.intro fun bc fc=>?_;have nc_b:=(ag fc).1
 try simp -dsimp only[go_sem]
 refine cg (fun O S=>∃i:Nat,i<=n/\O 1=aX n v/\O 6=.ptr 1 bb 0/\O 7=.ptr 1 bc 0/\O 15=aX n a/\O 16=.int .i64 n/\O 17=.int .i64 i/\EH S bb bc i a v) (fun O S=>n-bT (O 17)) ?_ ?_
 ·simp -dsimp only[go_sem,aX];exact⟨0,om,rfl,0,0,(aR.here fun j K=>by simp).upd (ai nc_b) _,aR.here fun j K=>by simp,by simp[aq],om,om⟩
 rintro Q' A O S ⟨i,T,q,l,m,e,b,c,P,N,C,D,r,bP,bN⟩;obtain⟨g,u,w⟩:=C.get;obtain⟨g',u',w'⟩:=D.get;have L:¬((2:Nat)=1):=by decide
 by_cases d:i<n
 ·have M:=(E i d).mono H;have Q:=(F i d).mono I;unfold nb at M Q;have x:=aM (om:i<1000000)
  have p:(a i).natAbs*(v i).natAbs<=4503599627370496:=by
   have h:=((E i d).mul (F i d)).mono J;unfold nb at h;rw[Int.natAbs_mul]at h;omega
  by_cases s:0<=a i
  ·obtain⟨X,k⟩:=jI s;have bX:X<2147483648:=om
   have nX:¬((X:Int)<0):=om
   by_cases o:0<=v i
   ·obtain⟨Y,f⟩:=jI o;have bY:Y<2147483648:=om
    have bXY:X*Y<=4503599627370496:=by have h:=p;rw[k,f]at h;simpa using h
    simp -dsimp only[go_sem,aa,q,l,m,e,b,c,d,aX,k,f,di,u,u',pF (om:X<4294967296),pF (om:Y<4294967296)]
    repeat refine an ?_
    try simp -dsimp only[go_sem,w]
    refine(vJ (om:X<4294967296) (om:Y<4294967296) (om:P+X*Y<18446744073709551616)).call ?_
    simp -dsimp only[go_sem,q,l,m,e,b,c,u,w,x,bT,cw,iu,aO,aG,false_implies,implies_true]
    repeat refine an ?_
    exact⟨⟨i+1,om,rfl,rfl,rfl,EH.next G1.put (D.upd nc_b _) r bXY bP bN (bn ⟨rfl,rfl,by rw[k,f]⟩)⟩,om⟩
   ·obtain⟨Y,f,pY⟩:=DO o;have bY:Y<2147483648:=om
    have bXY:X*Y<=4503599627370496:=by have h:=p;rw[k,f]at h;simpa using h
    simp -dsimp only[go_sem,aa,q,l,m,e,b,c,d,aX,k,f,di,nX,(om:¬((0:Int)<=-(Y:Int))),u,u',pF (om:X<4294967296),pF (om:Y<4294967296),AK (om:Y<4294967296)]
    repeat refine an ?_
    try simp -dsimp only[go_sem,w']
    refine(vJ (om:X<4294967296) (om:Y<4294967296) (om:N+X*Y<18446744073709551616)).call ?_
    simp -dsimp only[go_sem,q,l,m,e,b,c,u',w',x,bT,cw,iu,aO,aG,false_implies,implies_true]
    repeat refine an ?_
    exact⟨⟨i+1,om,rfl,rfl,rfl,EH.next (C.upd (ai nc_b) _) G1.put r bXY bP bN (aK ⟨rfl,rfl,by rw[k,f];exact Int.mul_neg _ _⟩)⟩,om⟩
  ·obtain⟨X,k,pX⟩:=DO s;have bX:X<2147483648:=om
   have nX:¬((0:Int)<=-(X:Int)):=om
   have nX':-(X:Int)<0:=om
   by_cases o:0<=v i
   ·obtain⟨Y,f⟩:=jI o;have bY:Y<2147483648:=om
    have bXY:X*Y<=4503599627370496:=by have h:=p;rw[k,f]at h;simpa using h
    simp -dsimp only[go_sem,aa,q,l,m,e,b,c,d,aX,k,f,di,nX,nX',(om:¬((Y:Int)<0)),u,u',pF (om:X<4294967296),pF (om:Y<4294967296),AK (om:X<4294967296)]
    repeat refine an ?_
    try simp -dsimp only[go_sem,w']
    refine(vJ (om:X<4294967296) (om:Y<4294967296) (om:N+X*Y<18446744073709551616)).call ?_
    simp -dsimp only[go_sem,q,l,m,e,b,c,u',w',x,bT,cw,iu,aO,aG,false_implies,implies_true]
    repeat refine an ?_
    exact⟨⟨i+1,om,rfl,rfl,rfl,EH.next (C.upd (ai nc_b) _) G1.put r bXY bP bN (aK ⟨rfl,rfl,by rw[k,f];exact Int.neg_mul _ _⟩)⟩,om⟩
   ·obtain⟨Y,f,pY⟩:=DO o;have bY:Y<2147483648:=om
    have bXY:X*Y<=4503599627370496:=by have h:=p;rw[k,f]at h;simpa using h
    simp -dsimp only[go_sem,aa,q,l,m,e,b,c,d,aX,k,f,nX,nX',(om:-(Y:Int)<0),u,u',pF (om:X<4294967296),pF (om:Y<4294967296),AK (om:X<4294967296),AK (om:Y<4294967296)]
    repeat refine an ?_
    try simp -dsimp only[go_sem,w]
    refine(vJ (om:X<4294967296) (om:Y<4294967296) (om:P+X*Y<18446744073709551616)).call ?_
    simp -dsimp only[go_sem,q,l,m,e,b,c,u,w,x,bT,cw,iu,aO,aG,false_implies,implies_true]
    repeat refine an ?_
    exact⟨⟨i+1,om,rfl,rfl,rfl,EH.next G1.put (D.upd nc_b _) r bXY bP bN (bn ⟨rfl,rfl,by rw[k,f];exact uX _ _⟩)⟩,om⟩
 have t:i=n:=om
 refine KP fun B=>?_;simp -dsimp only[go_sem,b,c,d];rw[t]at r;rw[A,<-r];simp -dsimp only[go_sem,aa,l,m,u,u']
 repeat refine an ?_
 try simp -dsimp only[go_sem,w,w']
 by_cases G:N<=P
 ·refine(zm (om:P<4611686018427387904) G).call ?_
  simp -dsimp only[go_sem,aa,l,m,u,w,u',w'];rw[rW G];exact VR.mf rfl
 ·refine(FH (om:N<4611686018427387904) (om:P<N)).call ?_
  simp -dsimp only[go_sem,aa,l,m,u,w,u',w']
  repeat refine an ?_
  try simp -dsimp only[go_sem,w,w']
  refine(zm (om:N<4611686018427387904) (om:P<=N)).call ?_
  simp -dsimp only[go_sem,show IntKind.i64.wrap (0-((N-P:Nat):Int))=(P:Int)-N by rw[rW (om:P<=N)];rw[(om:0-((N:Int)-P)=(P:Int)-N)];exact i64_in om om]
  exact VR.mf rfl

def Fr(n:Nat)(A B:aB)(i j:Nat):Int:=aq n fun k=>B j k*aq n (fun l=>A k l*B i l)
def pS(n:Nat)(A B:aB)(i j:Nat):Int:=if j<=i then Fr n A B i j else Fr n A B j i
def GrR(S:St)(b m k:Nat)(E:aB):Prop:=∃g,eQ 29 2 1 St.none S b g m m k (fun a c=>.int .i64 (E a c))
theorem EE(n m L C:Nat)(A B:aB)(Z:gH n A)(hm:m<=16)(hA:∀i j,i<n->j<n->nb (A i j) L)(T:∀i j,i<m->j<n->nb (B i j) C)(U:L+C<=21)(hk2:L+C+C<=42) :
  zd 110 [ax n n A,ax m n B] m m (pS n A B):=by
 have h1:=Z.one;have hn:n<=16:=by have:=Z.five;omega
 refine zd.of (ak func110 rfl 89 ntmps110 kr sm (by simp[results110]) ?_)
 rw[aF,results110];simp -dsimp only[go_sem,aa];refine(pk n A Z).call ?_;simp -dsimp only[go_sem,ax];refine cg (fun O S=>∃i:Nat,i<=m/\O 0=ax n n A/\O 1=ax m n B/\O 19=ax m n B/\O 20=.int .i64 m/\O 21=.int .i64 i/\S=St.none) (fun O S=>m-bT (O 21)) ?_ ?_
 ·simp -dsimp only[go_sem,ax];exact⟨0,om,rfl⟩
 rintro Q1 N O S ⟨i,V,f,o,v,w,x,rfl⟩;by_cases b:i<m
 ·simp -dsimp only[go_sem,aa,f,v,w,x,b,ax];refine(D3 n (B i) hn (fun j W=>(T i j b W).mono om)).call ?_;simp -dsimp only[go_sem,f,o,v,w,x,ax,aM (om:i<1000000),bT]
  exact⟨⟨i+1,om,rfl⟩,om⟩
 simp -dsimp only[go_sem,aa,f,v,w,x,b];rw[N];simp -dsimp only[go_sem,o,ax]
 repeat refine an ?_
 refine au.intro fun bb fb=>?_
 try simp -dsimp only[go_sem]
 refine cg (fun O S=>∃i:Nat,i<=m/\O 0=ax n n A/\O 1=ax m n B/\O 8=.sl 1 bb 0 m/\O 35=.int .i64 m/\O 36=.int .i64 i/\GrR S bb m i (fun _ _=>0)) (fun O S=>m-bT (O 36)) ?_ ?_
 ·simp -dsimp only[go_sem,f,o,ax];exact⟨0,om,rfl,fun _=>0,eQ.init fb (fun _ _=>rfl) _ _⟩
 clear f o v w x b V N Q1 O i;rintro Q2 G O S ⟨i,V,f,o,t,H,I,g,p⟩;by_cases b:i<m
 ·obtain⟨X,P,v4⟩:=id p.outer;simp -dsimp only[go_sem,aa,f,o,t,H,I,b,ax]
  repeat refine an ?_
  refine au.intro fun bd fd=>?_;have hdc:bb≠bd:=aR.fresh p.outer fd;have hset:aL X i (.sl 1 bd 0 m) i=.sl 1 bd 0 m:=by simp[aL]
  try simp -dsimp only[go_sem,b,P,hdc]
  clear G;have hR1:=p.push dc fd P (fun _=>.int .i64 0)
  simp -dsimp only[go_sem,aM (om:i<1000000),bT]
  refine⟨⟨i+1,om,rfl,_,hR1.congr fun a c _ _=>?_⟩,om⟩
  by_cases e:a=i<;>simp[e]
 simp -dsimp only[go_sem,aa,f,o,t,H,I,b];rw[G];have D:i=m:=om
 rw[D]at p;clear D b V H I G Q2;simp -dsimp only[go_sem,o,ax];refine cg (fun O S=>∃i:Nat,i<=m/\O 0=ax n n A/\O 1=ax m n B/\O 8=.sl 1 bb 0 m/\O 46=ax m n B/\O 47=.int .i64 m/\O 48=.int .i64 i/\GrR S bb m m (fun a c=>if a<i/\c<i then pS n A B a c else 0)) (fun O S=>m-bT (O 48)) ?_ ?_
 ·simp -dsimp only[go_sem,f,o,t,ax];exact⟨0,om,rfl,g,p.congr fun a c _ _=>by simp⟩
 clear f o t p;clear O S g i;rintro Q3 J O S ⟨i,V,f,o,t,q,r,s,M⟩;by_cases b:i<m
 ·simp -dsimp only[go_sem,aa,f,q,r,s,b,ax];refine(C1 n L C A (B i) hn hA (fun j W=>T i j b W) om).call ?_;simp -dsimp only[go_sem,f,ax];refine cg (fun O S=>∃j:Nat,j<=i+1/\O 0=ax n n A/\O 1=ax m n B/\O 8=.sl 1 bb 0 m/\O 10=.int .i64 i/\O 12=aX n (fun k=>aq n (fun l=>A k l*B i l))/\O 46=ax m n B/\O 47=.int .i64 m/\O 48=.int .i64 i/\O 57=.int .i64 (i+1:Nat)/\O 58=.int .i64 j /\
   GrR S bb m m (fun a c=>if (a<i/\c<i)∨(a=i/\c<j)∨(c=i/\a<j)then pS n A B a c else 0)) (fun O S=>i+1-bT (O 58)) ?_ ?_
  ·simp -dsimp only[go_sem,f,o,t,q,r,s,ax,aM (om:i<1000000)]
   obtain⟨g,p⟩:=M;exact⟨0,om,rfl,g,p.congr fun a c _ _=>by simp⟩
  clear f o t q r s M;clear O S;rintro Q4 K O S ⟨j,W,f,o,t,Q,u,q,r,s,y,z,M⟩;by_cases R:j<i+1
  ·have d:j<m:=om
   simp -dsimp only[go_sem,aa,o,u,y,z,R,d,ax];refine(Gi n C (L+C+10) (B j) _ hn (fun k U=>T j k d U) (fun k U=>pL (n:=n) (k:=L+C) (fun l hl=>(hA k l U hl).mul (T i l b hl)) om n (af _)) om om om).call ?_;obtain⟨g,p⟩:=M;obtain⟨X,P,v4⟩:=id p.outer;obtain⟨g5,u5,v5⟩:=id (p.row i b);obtain⟨g6,Y,v6⟩:=id (p.row j d);have x4:X i=.sl 1 (g i) 0 m:=(v4 i b).trans (if_pos b);have x5:X j=.sl 1 (g j) 0 m:=(v4 j d).trans (if_pos d);clear K J;simp -dsimp only[go_sem,o,u,ax];refine eR 13 kr ?_
   by_cases e:j=i
   ·subst e;simp -dsimp only[go_sem,aa,f,o,t,Q,u,q,r,s,y,z,d,ax,P,x5,Y,aM (om:j<1000000),bT]
    have hv:pS n A B j j=aq n (fun k=>B j k*aq n (fun l=>A k l*B j l)):=if_pos (af _);refine⟨⟨j+1,om,rfl,g,((p.put dc d Y j _).put dc d bR j _).congr fun a c _ _=>?_⟩,om⟩
    dsimp only;by_cases E:a=j/\c=j
    ·rw[if_pos E,if_pos om];obtain⟨rfl,rfl⟩:=E;exact congrArg _ hv.symm
    rw[if_neg E,if_neg E];by_cases F:(a<j/\c<j)∨(a=j/\c<j)∨(c=j/\a<j)
    ·rw[if_pos F,if_pos om]
    ·rw[if_neg F,if_neg om]
   ·have nij:g i≠g j:=fun h=>e (p.inj j i d b h.symm);simp -dsimp only[go_sem,aa,f,o,t,Q,u,q,r,s,y,z,b,d,ax,P,x4,x5,u5,Y,ai nij,aM (om:j<1000000),bT]
    have hv:pS n A B i j=aq n (fun k=>B j k*aq n (fun l=>A k l*B i l)):=if_pos om;have hv2:pS n A B j i=aq n (fun k=>B j k*aq n (fun l=>A k l*B i l)):=if_neg om;have u6':(S.upd (g i) ⟨2,1,m,aL g5 j (.int .i64 (aq n (fun k=>B j k*aq n (fun l=>A k l*B i l))))⟩) (g j)=some ⟨2,1,m,g6⟩:=(aH (ai nij)).trans Y;refine⟨⟨j+1,om,rfl,g,((p.put dc b u5 j _).put dc d u6' i _).congr fun a c _ _=>?_⟩,om⟩
    dsimp only;by_cases E:a=j/\c=i
    ·rw[if_pos E,if_pos om];obtain⟨rfl,rfl⟩:=E;exact congrArg _ hv2.symm
    rw[if_neg E];by_cases q2:a=i/\c=j
    ·rw[if_pos q2,if_pos om];obtain⟨rfl,rfl⟩:=q2;exact congrArg _ hv.symm
    rw[if_neg q2];by_cases F:(a<i/\c<i)∨(a=i/\c<j)∨(c=i/\a<j)
    ·rw[if_pos F,if_pos om]
    ·rw[if_neg F,if_neg om]
  simp -dsimp only[go_sem,aa,o,u,y,z,R];rw[K];clear K J;simp -dsimp only[go_sem,f,o,t,q,r,s,ax,aM (om:i<1000000),bT]
  obtain⟨g,p⟩:=M;refine⟨⟨i+1,om,rfl,g,p.congr fun a c _ _=>?_⟩,om⟩
  dsimp only;by_cases F:(a<i/\c<i)∨(a=i/\c<j)∨(c=i/\a<j)
  ·rw[if_pos F,if_pos om]
  ·rw[if_neg F,if_neg om]
 simp -dsimp only[go_sem,aa,f,q,r,s,b];rw[J];simp -dsimp only[go_sem,t];obtain rfl:i=m:=om
 obtain⟨g,p⟩:=M;exact⟨bb,rfl,g,(p.imat fun a c ha hc=>by dsimp only;rw[if_pos ⟨ha,hc⟩]).1⟩

theorem t9(n k:Nat)(W:aB)(a:1<=n)(o:n<=8)(d:k<=32)(c:∀i j,i<n->j<n->nb (W i j) k)(f:det n W=1∨det n W=-1):PF 109 [ax n n W] (.bool true):=by
 have b:det n W≠0:=om
 have g:iF (det n W):=by unfold iF;omega
 refine PF.of_spec (ak func109 rfl 39 ntmps109 kr sm (by simp[results109]) ?_)
 rw[aF,results109];simp -dsimp only[go_sem,aa];refine(nT n n W a om a om (fun i j h l=>by
  have m:=(c i j h l).mono d;unfold nb at m;omega)).pf.call ?_
 simp -dsimp only[go_sem,aa,ax,(om:¬((8:Int)<(n:Int)))]
 refine(tB n (17*(k+10)) W a om om om b (vU om c)).call ?_;simp -dsimp only[go_sem];refine au.intro fun bx fx=>?_
 try simp -dsimp only[go_sem]
 refine(pR g).call ?_;rcases f with e|e
 ·rw[e];simp -dsimp only[go_sem,e9];exact VR.mf rfl
 ·rw[e];simp -dsimp only[go_sem,e9];exact VR.mf rfl

def ColR(S:St)(bb n i r:Nat)(W:aB):Prop:=∃(g:Nat->Nat) (x:AV),aR S bb 29 1 n (fun a=>if a<i then .sl 1 (g a) 0 n else if a=i then x else .nil) /\
 (∀a,a<i->l8 S (g a) n (fun c=>W c a)/\¬dl x (g a))/\cC 2 1 St.none S x r (fun c=>.int .i64 (W c i))/\¬dl x bb
def ColT(S:St)(bb n i:Nat)(W:aB):Prop:=∃g:Nat->Nat,aR S bb 29 1 n (fun a=>if a<i then .sl 1 (g a) 0 n else .nil)/\∀a,a<i->l8 S (g a) n (fun c=>W c a)
theorem yg(n N D:Nat)(A W:aB)(P:gH n A)(hA:∀i j,i<n->j<n->nb (A i j) N)(hW:∀i j,i<n->j<n->nb (W i j) D)(hk:N+D<=21)(Q:N+D+D<=42)(R:det n W=1∨det n W=-1) :
  zd 50 [ax n n A,ax n n W] n n (pS n A (fun i r=>W r i)):=by
 have T:=P.one;have h5:=P.five;refine zd.of (ak func50 rfl 54 ntmps50 kr sm (by simp[results50]) ?_)
 rw[aF,results50];simp -dsimp only[go_sem,aa,ax,b9];refine(t9 n D W T om om hW R).call ?_;simp -dsimp only[go_sem,b9]
 repeat refine an ?_
 refine au.intro fun bb fb=>?_
 try simp -dsimp only[go_sem]
 refine cg (fun O S=>∃i:Nat,i<=n/\O 0=ax n n A/\O 1=ax n n W/\O 6=.sl 1 bb 0 n/\O 24=.int .i64 n/\O 25=.int .i64 i/\ColT S bb n i W) (fun O S=>n-bT (O 25)) ?_ ?_
 ·simp -dsimp only[go_sem,ax];exact⟨0,om,rfl,fun _=>0,aR.here fun a b=>by simp,fun a b=>om⟩
 rintro Q1 m O S ⟨i,hi,E,o,p,f,k,F⟩;by_cases l:i<n
 ·simp -dsimp only[go_sem,o,f,k,l,ax];refine cg (fun O S=>∃r:Nat,r<=n/\O 0=ax n n A/\O 1=ax n n W/\O 6=.sl 1 bb 0 n/\O 7=.int .i64 i/\O 24=.int .i64 n/\O 25=.int .i64 i/\O 28=ax n n W/\O 29=.int .i64 n/\O 30=.int .i64 r/\ColR S bb n i r W) (fun O S=>n-bT (O 30)) ?_ ?_
  ·simp -dsimp only[go_sem,E,o,p,f,k,ax];obtain⟨g,s,G⟩:=F;obtain⟨z,u,w⟩:=s;exact⟨0,om,rfl,g,.nil,⟨z,u,fun a b=>(w a b).trans (by by_cases e:a<i<;>simp[e])⟩,fun a b=>⟨G a b,by rintro⟨_,_,_,e⟩;cases e⟩,cC.nil (fun _ _ h=>by cases h) _,by rintro⟨_,_,_,e⟩;cases e⟩
  clear E o p f k F;clear O S;rintro Q2 t O S ⟨r,hr,E,o,p,e7,f,k,v,y,B,g,x,s,G,U,H⟩;by_cases I:r<n
  ·obtain⟨g4,V,v4⟩:=id s;have x4:g4 i=x:=(v4 i l).trans sm
   simp -dsimp only[go_sem,v,y,B,I,ax,aX];refine eR 11 kr ?_
   simp -dsimp only[go_sem,aa,p,e7,l,V,x4];clear m t;refine cC.app rfl rfl rfl U om (show dN 1 (.int .i64 (W r i))from by simp[dN]) (bn ⟨_,rfl,rfl⟩) ?_
   intro c S2 Y J C;have u5:=J _ _ V H;simp -dsimp only[go_sem,aa,E,o,p,e7,f,k,v,y,B,l,u5,aM (om:r<1000000),bT]
   have K:c≠bb:=by
    rintro rfl;rcases C with h|h
    ·exact H h
    ·rw[V]at h;cases h
   refine⟨⟨r+1,om,rfl,rfl,rfl,rfl,g,.sl 1 c 0 (r+1),⟨_,bR,fun a b=>?_⟩,fun a b=>?_,?_,fun h=>K (dk.1 h).symm⟩,om⟩
   ·by_cases e:a=i
    ·simp[aL,e]
    ·exact(if_neg e).trans ((v4 a b).trans (by simp[e]))
   ·obtain⟨Z,r2⟩:=G a b;have hgb:g a≠bb:=fun h=>by have:=aR.ne Z s dc;exact this h
    obtain⟨q,q1,q2⟩:=id Z;refine⟨⟨q,(aH hgb).trans (J _ _ q1 r2),q2⟩,fun hb=>?_⟩;rw[dk]at hb;rw[<-hb]at C;rcases C with h|h
    ·exact r2 h
    ·exact aR.fresh Z h rfl
   ·refine(Y.keep (x:=.sl 1 bb 0 0) (fun _ _ h=>by cases h) (fun d X hX R=>(aH (fun h=>R (dk.2 h))).trans hX) (fun d T h2=>K ((dk.1 T).symm.trans (dk.1 h2)))).congr fun a b=>?_
    by_cases e:a=r
    ·subst e;rw[if_pos rfl]
    ·rw[if_neg e]
  simp -dsimp only[go_sem,aa,v,y,B,I];rw[t];clear t;simp -dsimp only[go_sem,E,o,p,f,k,ax,aM (om:i<1000000),bT]
  have L:r=n:=om
  rw[L]at U;rcases U.2 with⟨h0,_⟩|⟨c,_,rfl,F⟩
  ·omega
  refine⟨⟨i+1,om,rfl,fun a=>if a=i then c else g a,?_,fun a b=>?_⟩,om⟩
  ·obtain⟨z,u,w⟩:=s;refine⟨z,u,fun a b=>(w a b).trans ?_⟩;by_cases e:a=i
   ·simp[e]
   ·simp[e,(om:a<i+1↔a<i)]
  ·by_cases e:a=i
   ·subst e;simp only[if_true];exact F
   ·simp only[e,if_false];exact(G a om).1
 simp -dsimp only[go_sem,o,f,k,l];rw[m];simp -dsimp only[go_sem,aa,E,p];clear m;have M:i=n:=om
 rw[M]at F;obtain⟨g,s,G⟩:=F;refine(EE n n N D A (fun a c=>W c a) P om hA (fun i j hi hj=>hW j i hj hi) hk Q S _ (dT.two (VA.refl _ _) (VR.va (VR.sl (h:=fun a=>aX n (fun c=>W c a)) s om fun a b=>?_)))).mono ?_
 ·rw[aJ,if_pos b];exact(G a b).vr
 rintro _ S2 ⟨b2,g2,rfl,hN⟩;simp -dsimp only[go_sem];exact⟨b2,rfl,g2,hN.1⟩

theorem GS(S:St)(d n p:Nat)(H:aB)(v:Nat->Nat)(l:gH n H)(u:j9 (det n H) p)(w:p∈cM)(x:kU n p H v)(y:aR S d 2 1 n (fun k=>.int .i64 ((v k:Nat):Int)))(z:iT S) :
  cL 25 [ax n n H,.int .i64 p,.sl 1 d 0 n] S (fun r S'=>∃c g Q,r=.tup [.sl 1 c 0 n,.int .i64 0]/\BD n p H v Q/\cT S' c g n n Q/\cY S S'):=by
 have q:=l.one;have F:=l.five;refine ak func25 rfl 30 ntmps25 kr sm (by simp[results25]) ?_
 rw[aF,results25];simp -dsimp only[go_sem,aa];refine(oe S d n p H v l u w x y z).mono ?_;rintro _ S1 ⟨bb,cq,gq,B,Q0,rfl,s,e,t,m⟩;have A:BD n p H v (qY n Q0):=⟨⟨B,s,fun i j a b=>by rw[(e i j a b).1];unfold qY;rw[if_pos ⟨a,b⟩]⟩,fun i j a b=>by unfold qY;rw[if_pos ⟨a,b⟩];exact(e i j a b).2,fun i j h=>by unfold qY;rw[if_neg h]⟩
 have o:dd S1 cq gq n n (qY n Q0):=t.congr fun i j a b=>by unfold qY;rw[if_pos ⟨a,b⟩]
 have C:∀i j,i<n->j<n->iF (qY n Q0 i j):=fun i j a b=>by unfold qY;rw[if_pos ⟨a,b⟩];have:=(e i j a b).2;unfold iF;omega
 generalize qY n Q0=Q at *;clear t e s;simp -dsimp only[go_sem,aa,b9];refine(o9 n n Q q om q om C S1 _ (dT.one o.vr.va)).mono ?_;rintro _ S2 ⟨D,E,rfl,f⟩;simp -dsimp only[go_sem];exact⟨D,rfl,E,Q,A,f.1,m.trans f.2.1⟩
theorem yW(S:St)(d n p:Nat)(H:aB)(v:Nat->Nat)(t:gH n H)(w:j9 (det n H) p)(x:p∈cM)(y:kU n p H v)(z:aR S d 2 1 n (fun k=>.int .i64 ((v k:Nat):Int)))(A:iT S)
  (e a:Nat) (R W:aB) (u:gH n R) (f:∀i j,i<n->j<n->nb (R i j) e) (h:∀i j,i<n->j<n->nb (W i j) a) (B:e+a<=21) (l:e+a+a<=42) (m:det n W=1∨det n W=-1)
  (o:∀Q,BD n p H v Q->∀i j,i<n->j<n->pS n R (fun i r=>W r i) i j=Q i j) :
  cL 17 [ax n n H,.int .i64 p,.sl 1 d 0 n,ax n n R,ax n n W] S (fun r S'=>r=.int .i64 0/\cY S S'):=by
 have I:=t.five;refine ak func17 rfl 54 ntmps17 kr sm (by simp[results17]) ?_
 rw[aF,results17];simp -dsimp only[go_sem,aa];refine(GS S d n p H v t w x y z A).mono ?_;rintro _ S1 ⟨b,g,Q,rfl,C,D,q⟩;simp -dsimp only[go_sem,aa,b9];refine(pk n R u).call ?_;simp -dsimp only[go_sem,aa,ax,b9];refine(B8 n W om).call ?_;simp -dsimp only[go_sem,aa,b9];refine(yg n e a R W u f h B l m S1 _ (cD _ _)).mono ?_;rintro _ S2 ⟨c,gc,rfl,s⟩;simp -dsimp only[go_sem,aa];have E:cT S2 c gc n n Q:=(s.congr fun i j F G=>o Q C i j F G).1;refine(yu n n Q om om).spec (dT.three E.vr.va (D.ext s.2.1).vr.va (VA.refl _ _)) ?_;simp -dsimp only[go_sem];exact q.trans s.2.1

def VK(S K:St)(x x':AV):Prop:=∀(w:World) (v:Value),dX w S->bB w S.dom x v->bB w K.dom x' v
theorem VK.cl{K:St}{x:AV}(h:MD x=true):VK S K x x:=fun _ _ _ a=>vV h a
theorem VK.vr{K:St}{x x':AV}(a:∀b X,T b=some X->S b=some X)(c:∀k,K.dom k->¬T.dom k)(d:MD x=true)(h:VR T x x'):VK S K x x':=fun w v e f =>
 bB.turn (fun k _ g=>c k g) _ _ (h w v (e.less a).1 (vV d f))
def NE(S K:St):List AV->List AV->Prop
 | [],[]=>True
 | x::l,y::m=>VK S K x y/\NE S K l m
 | _,_=>False
theorem NE.rep{S K:St}{w:World}(b:dX w S):∀(l m:List AV) (vs:List Value),NE S K l m->a6 w S.dom l vs->a6 w K.dom m vs
 | [],[],vs,_,h=>by cases vs<;>simpa only[a6]using h
 | x::l,y::m,[],_,h=>h
 | x::l,y::m,v::vs,a,h=>by
  simp only[a6]at h ⊢;exact⟨a.1 w v b h.1,NE.rep b l m vs a.2 h.2⟩
 | [],_::_,_,a,_=>a.elim
 | _::_,[],_,a,_=>a.elim
theorem cL.frameK{K:St}(h:cL f args' K post)(g:∀b X,K b=some X->S b=some X)(t:yz K)(G:NE S K args args')
  (H:∀r S1,post r S1->cY K S1/\MD r=true/\∃S2,(∀b X,S2 b=some X->S1 b=some X/\K b=ae)/\yz S2/\post' r S2) :
  cL f args S (fun r S'=>∃S2,post' r S2/\(∀b X,S b=some X->S2 b=ae)/\S'=S.join S2):=by
 intro w vs m I;refine(h w vs (m.less g).1 (NE.rep m _ _ _ G I)).mono ?_;rintro e w' ⟨v,r,S1,rfl,x,J,D,c⟩;obtain⟨L,M,S2,l,N,y⟩:=H r S1 x;have z:∀b X,S b=some X->b<w.heap.size:=fun b X a=>by obtain⟨cs,d,_⟩:=m b X a;exact dW d
 have E:∀b,b<w.heap.size->S2 b=ae:=fun b O=>by
  cases e:S2 b with
  | none=>rfl
  | some Y =>
   obtain⟨P,Q⟩:=l b Y e;exact absurd (c.own b O (by simp[St.dom,P])) (by simp[St.dom,Q])
 have A:∀k,¬S.dom k->¬K.dom k:=fun k B n=>by
  cases e:K k with
  | none=>simp[St.dom,e]at n
  | some X=>exact B (by simp[St.dom,g k X e])
 have F:cG S.dom (S.join S2).dom w w':=⟨c.os,c.tape,c.output,c.size,fun k n B=>c.keep k n (A k B),c.shape,fun k n C=>by
  simp only[St.dom,St.join]at C ⊢
  cases e:S k with
  | none=>rw[e]at C;exact absurd (E k n) C
  | some X=>simp⟩
 refine⟨v,r,S.join S2,rfl,⟨S2,y,fun b X a=>E b (z b X a),rfl⟩,vV M J,?_,F⟩;intro b X a;simp only[St.join]at a
 cases e:S b with
 | some Y =>
  rw[e]at a;cases a
  cases eK:K b with
  | none =>
   obtain⟨cs,d,l,o,p⟩:=m b X e;refine⟨cs,by rw[c.keep b (dW d) (by simp[St.dom,eK])];exact d,l,fun j i=>?_,p⟩
   obtain⟨u,q,s⟩:=o j i;exact⟨u,q,bB.grow m.noU F _ _ s⟩
  | some Z =>
   obtain rfl:X=Z:=Option.some.inj (e.symm.trans (g b Z eK));obtain⟨cs,d,l,o,p⟩:=D b X (L b X eK);refine⟨cs,d,l,fun j i=>?_,p⟩;obtain⟨u,q,s⟩:=o j i;exact⟨u,q,p9 (t b X eK j i) s⟩
 | none =>
  rw[e]at a;obtain⟨cs,d,o,p,R⟩:=D b X (l b X a).1;refine⟨cs,d,o,fun j i=>?_,R⟩;obtain⟨u,q,s⟩:=p j i;exact⟨u,q,p9 (N b X a j i) s⟩

def I2:aB:=fun i j=>if i=j then 1 else 0
def v12:Nat->Nat:=fun i=>i+1
theorem qW:gH 2 I2:=by
 refine⟨om,om,⟨⟨fun a b _ _=>by simp[I2,eq_comm],fun k c=>?_⟩,⟨fun r d j e=>?_,fun r f d=>?_⟩,fun k c=>?_⟩,by decide⟩
 ·rcases (om:k=0∨k=1∨k=2)with rfl|rfl|rfl<;>decide
 ·obtain⟨rfl,rfl⟩:r=1/\j=0:=om
  unfold fM;decide
 ·obtain rfl:r=1:=om
  unfold gZ;decide
 ·rcases (om:k=0∨k=1∨k=2)with rfl|rfl|rfl<;>decide
theorem wa:j9 (det 2 I2) 5:=⟨om,om,⟨om,fun d a b=>by
 have:d<3:=by
  rcases Nat.lt_or_ge d 3 with h|h
  ·exact h
  ·have:=Nat.mul_le_mul h h;omega
 obtain rfl:d=2:=om
 omega⟩,by decide⟩
theorem tv:kU 2 5 I2 v12:=⟨fun i a=>by unfold v12;omega,by decide,by decide⟩
theorem red2(h:G3 A 2)(g:det 2 A=1):A 0 0=1/\A 1 1=1/\A 0 1=0/\A 1 0=0:=by
 have j:=h.pd.sym 0 1 om om;have k:=h.pd.pos 1 om;have f:=h.rows.1 1 om 0 om;have e:=h.rows.2 1 om om;have l:eB A 1 0=A 1 0:=by show ca A 0 1 0=A 1 0;exact eS ..
 unfold fM at f;unfold gZ at e;rw[l]at f e;rw[sO]at g;simp only[aJ,Nat.sub_self,Nat.reduceAdd,Fv,sO,show det 0 A=1 from rfl,Int.one_mul]at k f e;rw[j]at g e ⊢;rw[g]at e;generalize A 0 0=a at *;generalize A 1 0=b at *;generalize A 1 1=c at *;have o:=nH (x:=b) (d:=a) f;have m:a=1:=by
  rcases gW a 2 with i|i
  ·omega
  ·have p:2*2<=a*a:=bW i i om om;omega
 subst m;have n:b=0:=om
 subst n;exact⟨rfl,om,rfl,rfl⟩
theorem zT(h:BD 2 5 I2 v12 Q):det 2 Q=1:=by
 obtain⟨B,a,b⟩:=h.ex;exact(Cy (p:=((5:Nat):Int)) om a.tri.1 a.tri.2.1 (a.det dc tv) b).trans dc
theorem FC(h:BD 2 5 I2 v12 Q){i j:Nat}(f:i<2)(g:j<2):oa 2 Q i j=I2 i j:=by
 have e:=h.qf qW wa dc tv
 obtain⟨a,b,c,d⟩:=red2 e.red.1 (e.red.2.trans (zT h));rcases (om:i=0∨i=1)with rfl|rfl<;>rcases (om:j=0∨j=1)with rfl|rfl
 ·exact a
 ·exact c
 ·exact d
 ·exact b
theorem qS(h:BD 2 5 I2 v12 Q){i j:Nat}(a:i<2)(b:j<2):jf 2 Q 0 i*jf 2 Q 0 j+jf 2 Q 1 i*jf 2 Q 1 j=Q i j:=by
 have c:=h.qf qW wa dc tv
 rw[<-c.wgram a b];have e:∀x y,x<2->y<2->oa 2 Q x y=I2 x y:=fun x y d f=>FC h d f;simp only[jn,aq,e 0 0 om om,e 0 1 om om,e 1 0 om om,e 1 1 om om];simp[I2,bZ]
theorem IZ(h:BD 2 5 I2 v12 Q):det 2 (jf 2 Q)=1∨det 2 (jf 2 Q)=-1:=by
 have e:=zT h;rw[sO]at e ⊢;rw[<-qS h (i:=0) (j:=0) om om,<-qS h (i:=0) (j:=1) om om,<-qS h (i:=1) (j:=0) om om,<-qS h (i:=1) (j:=1) om om]at e;generalize jf 2 Q 0 0=a at *;generalize jf 2 Q 0 1=b at *;generalize jf 2 Q 1 0=c at *;generalize jf 2 Q 1 1=d at *;have k:(a*d-c*b)*(a*d-c*b)=1:=by rw[<-e];grind
 rcases Int.lt_trichotomy (a*d-c*b) 0 with f|f|f
 ·right;generalize a*d-c*b=x at *;rcases gW x (-1)with g|g
  ·have:2*2<=(-x)*(-x):=bW om om om om;rw[uX]at this;omega
  ·omega
 ·rw[f]at k;omega
 ·left;generalize a*d-c*b=x at *;rcases gW 1 x with g|g
  ·have:2*2<=x*x:=bW om om om om;omega
  ·omega
theorem Lu(x:Int):0<=x*x:=by
 rcases Int.le_total 0 x with h|h
 ·exact Int.mul_nonneg h h
 ·exact Int.mul_nonneg_of_nonpos_of_nonpos h h
theorem IY(h:BD 2 5 I2 v12 Q){i j:Nat}(c:i<2)(a:j<2):nb (jf 2 Q i j) 20:=by
 have d:=qS h a a;have e:=h.ent j j a a;have f:=Lu (jf 2 Q 0 j);have g:=Lu (jf 2 Q 1 j);have b:jf 2 Q i j*jf 2 Q i j<=524288*524288:=by
  rcases (om:i=0∨i=1)with rfl|rfl<;>omega
 have k:=mD om b;unfold nb;omega
theorem El(h:BD 2 5 I2 v12 Q){i j:Nat}(a:i<2)(b:j<2):pS 2 I2 (fun i r=>jf 2 Q r i) i j=Q i j:=by
 have e:∀i j,Fr 2 I2 (fun i r=>jf 2 Q r i) i j=jf 2 Q 0 j*jf 2 Q 0 i+jf 2 Q 1 j*jf 2 Q 1 i:=fun i j=>by
  simp[Fr,aq,I2]
 unfold pS;rw[e,e,<-qS h a b];split
 ·rw[bZ (jf 2 Q 0 j),bZ (jf 2 Q 1 j)]
 ·rfl

def od(S:St)(d:Nat):St:=fun k=>if k=d∨k=0 then S k else ae
theorem wW:∀b X,od S d b=some X->S b=some X:=fun b X h=>by
 unfold od at h;split at h
 ·exact h
 ·cases h
theorem qI{ty es:Nat}{g:Nat->AV}(h:aR S b ty es n g)(a:b=d∨b=0):aR (od S d) b ty es n g:=by
 obtain⟨z,u,w⟩:=h;exact⟨z,by unfold od;rw[if_pos a];exact u,w⟩
theorem JW:∀j,j<8->qd (DK.getD j .any)=true:=by decide
theorem Cm{v:Nat->Int}(f:aR S d 2 1 n (fun k=>.int .i64 (v k)))(g:iT S):yz (od S d):=fun b X a j e=>by
 have c:=wW b X a;unfold od at a;split at a
 ·rename_i h;rcases h with rfl|rfl
  ·obtain⟨z,u,w⟩:=f;rw[u]at c
   cases c
   show qd (z j)=true;rw[w j e];rfl
  ·obtain⟨ty,z,u,w⟩:=g;rw[u]at c
   cases c
   show qd (z j)=true;rw[w j e];exact JW j e
 ·cases a
theorem F0(c:d≠b)(f:∀i,i<n->d≠g i)(j:0≠b)(l:∀i,i<n->0≠g i):∀k,(od S d).dom k->¬(cZ S b g n).dom k:=fun k m o=>by
 have p:k=d∨k=0:=by
  apply cU;intro h;simp[St.dom,od,h]at m
 have q:k=b∨∃i,i<n/\k=g i:=by
  apply cU;intro h;have r:k≠b:=fun e=>h (bn e);have s:¬∃i,i<n/\k=g i:=fun e=>h (aK e);simp[St.dom,cZ,r,s]at o
 rcases p with rfl|rfl<;>rcases q with rfl|⟨i,a,e⟩
 ·exact c rfl
 ·exact f i a e
 ·exact j rfl
 ·exact l i a e
theorem VK.imat(h:cT S b g n m A)(a:d≠b)(c:∀i,i<n->d≠g i)(e:0≠b)(f:∀i,i<n->0≠g i):VK S (od S d) (.sl 1 b 0 n) (ax n m A) :=
 VK.vr (fU S b g n) (F0 a c e f) rfl h.only.1.vr
theorem yz.join(d:yz S)(f:yz T):yz (S.join T):=fun b X a j c=>by
 simp only[St.join]at a
 cases e:S b with
 | some Y=>rw[e]at a;cases a;exact d b _ e j c
 | none=>rw[e]at a;exact f b X a j c
theorem H3{K:St}{gc:Nat->Nat}(f:K b=ae)(h:∀i,i<n->K (g i)=ae)(j:K c=ae)(l:∀i,i<m->K (gc i)=ae) :
  ∀k X,(cZ S1 b g n).join (cZ S1 c gc m) k=some X->S1 k=some X/\K k=ae:=fun k X a=>by
 have key:∀b n g,K b=ae->(∀i,i<n->K (g i)=ae)->∀Y,cZ S1 b g n k=some Y->S1 k=some Y/\K k=ae:=fun b n g o p Y d=>by
  refine⟨fU S1 b g n k Y d,?_⟩;unfold cZ at d;split at d
  ·rename_i e;rw[e];exact o
  ·split at d
   ·rename_i e;obtain⟨i,q,e⟩:=e;rw[e];exact p i q
   ·cases d
 simp only[St.join]at a
 cases e:cZ S1 b g n k with
 | some Y=>rw[e]at a;cases a;exact key b n g f h _ e
 | none=>rw[e]at a;exact key c m gc j l X a
theorem FZ{gc:Nat->Nat}:cY (cZ S1 c gc m) ((cZ S1 b g n).join (cZ S1 c gc m)):=fun k X a=>by
 simp only[St.join]
 cases e:cZ S1 b g n k with
 | some Y=>exact(fU S1 b g n k Y e).symm.trans (fU S1 c gc m k X a)
 | none=>exact a
theorem GU(S:St)(d n p bh:Nat)(gh:Nat->Nat)(H:aB)(v:Nat->Nat)(o:gH n H)(q:j9 (det n H) p)(s:p∈cM)(u:kU n p H v)(l:aR S d 2 1 n (fun k=>.int .i64 ((v k:Nat):Int)))(m:iT S)
  (w:cT S bh gh n n H) (x:d≠bh) (y:∀i,i<n->d≠gh i) (z:0≠bh) (A:∀i,i<n->0≠gh i) :
  cL 14 [.sl 1 bh 0 n,.int .i64 p,.sl 1 d 0 n] S (fun r S'=>∃Q b c g gc,r=.tup [.sl 1 b 0 n,.sl 1 c 0 n,.int .i64 0]/\BD n p H v Q/\cT S' b g n n (oa n Q)/\cT S' c gc n n (jf n Q)/\cY S S'):=by
 have f:iT (od S d):=by obtain⟨ty,h⟩:=m;exact⟨ty,qI h (aK rfl)⟩
 refine(cL.frameK (args:=[.sl 1 bh 0 n,.int .i64 p,.sl 1 d 0 n]) (post':=fun r S2=>∃Q b c g gc,r=.tup [.sl 1 b 0 n,.sl 1 c 0 n,.int .i64 0]/\BD n p H v Q/\cT S2 b g n n (oa n Q)/\cT S2 c gc n n (jf n Q))
  (qy (od S d) d n p H v o q s u (qI l (bn rfl)) f) wW (Cm l m) ⟨VK.imat w x y z A,VK.cl rfl,VK.cl rfl,trivial⟩ ?_).mono ?_
 ·rintro _ S1 ⟨Q,b,c,g,gc,rfl,j,a⟩;exact⟨a.ext,rfl,_,H3 a.nb a.nbr a.nc a.ncr,yz.join a.r.only.2 a.t.only.2,Q,b,c,g,gc,rfl,j,a.r.only.1.ext (lU _ _),a.t.only.1.ext FZ⟩
 ·rintro _ S' ⟨S2,⟨Q,b,c,g,gc,rfl,j,B,C⟩,e,rfl⟩;exact⟨Q,b,c,g,gc,rfl,j,(B.join e).1,(C.join e).1,lU _ _⟩
theorem C6(S:St)(d n p bh br bw:Nat)(gh gr gw:Nat->Nat)(H R W:aB)(v:Nat->Nat)(u:gH n H)(w:j9 (det n H) p)(x:p∈cM)(y:kU n p H v)(s:aR S d 2 1 n (fun k=>.int .i64 ((v k:Nat):Int)))(t:iT S)
  (z:cT S bh gh n n H) (A:d≠bh) (B:∀i,i<n->d≠gh i) (C:0≠bh) (D:∀i,i<n->0≠gh i)
  (E:cT S br gr n n R) (F:d≠br) (G:∀i,i<n->d≠gr i) (I:0≠br) (J:∀i,i<n->0≠gr i)
  (K:cT S bw gw n n W) (L:d≠bw) (M:∀i,i<n->d≠gw i) (N:0≠bw) (O:∀i,i<n->0≠gw i)
  (c a:Nat) (e:gH n R) (f:∀i j,i<n->j<n->nb (R i j) c) (g:∀i j,i<n->j<n->nb (W i j) a) (P:c+a<=21) (l:c+a+a<=42) (m:det n W=1∨det n W=-1)
  (o:∀Q,BD n p H v Q->∀i j,i<n->j<n->pS n R (fun i r=>W r i) i j=Q i j) :
  cL 17 [.sl 1 bh 0 n,.int .i64 p,.sl 1 d 0 n,.sl 1 br 0 n,.sl 1 bw 0 n] S (fun r S'=>r=.int .i64 0/\cY S S'):=by
 have q:iT (od S d):=by obtain⟨ty,h⟩:=t;exact⟨ty,qI h (aK rfl)⟩
 refine(cL.frameK (args:=[.sl 1 bh 0 n,.int .i64 p,.sl 1 d 0 n,.sl 1 br 0 n,.sl 1 bw 0 n]) (post':=fun r _=>r=.int .i64 0)
  (yW (od S d) d n p H v u w x y (qI s (bn rfl)) q c a R W e f g P l m o) wW (Cm s t) ⟨VK.imat z A B C D,VK.cl rfl,VK.cl rfl,VK.imat E F G I J,VK.imat K L M N O,trivial⟩ ?_).mono ?_
 ·rintro _ S1 ⟨rfl,T⟩;exact⟨T,rfl,St.none,fun b X h=>(by cases h),fun b X h=>(by cases h),rfl⟩
 ·rintro _ S' ⟨S2,rfl,_,rfl⟩;exact⟨rfl,lU _ _⟩

theorem Bm{y:Int}:cI 29 2 [(0,.int .i64 x),(1,.int .i64 y)] S K=au S (fun b=>K (.sl 1 b 0 2) (S.upd b ⟨2,1,2,fun j=>[AV.int .i64 x,.int .i64 y].getD j .any⟩)):=by
 simp only[cI,dw,bS];simp[d9,fD,au,dN]
theorem Ej:cI 28 2 [(0,.sl 1 b 0 2),(1,.sl 1 c 0 2)] S K=au S (fun a=>K (.sl 1 a 0 2) (S.upd a ⟨29,1,2,fun j=>[AV.sl 1 b 0 2,.sl 1 c 0 2].getD j .any⟩)):=by
 simp only[cI,dw,bS];simp[d9,fD,au,dN]
theorem Bo(S:St)(C:iT S):cL 12 [] S (fun r S'=>r=.bool true/\cY S S'):=by
 refine ak func12 rfl 30 ntmps12 kr sm (by simp[results12]) ?_
 rw[aF,results12];simp -dsimp only[go_sem,Bm];refine au.intro fun ba fa=>?_
 try simp -dsimp only[go_sem,Bm,Ej]
 refine au.intro fun bb fb=>?_;have nb_a:=(ag fb).1
 try simp -dsimp only[go_sem,Ej]
 refine au.intro fun bh fh=>?_;have nh_b:=(ag fh).1;have nh_a:=(ag (ag fh).2).1
 try simp -dsimp only[go_sem,Bm,Ej]
 refine au.intro fun bd fd=>?_;have nd_h:=(ag fd).1;have nd_b:=(ag (ag fd).2).1;have nd_a:=(ag (ag (ag fd).2).2).1
 try simp -dsimp only[go_sem]
 obtain⟨G,z0,H,M⟩:=id C;have q:∀{k:Nat},S k=ae->0≠k:=by
  rintro k D rfl;rw[H]at D
  cases D
 have fb':=(ag fb).2;have fh':=(ag (ag fh).2).2;have fd':=(ag (ag (ag fd).2).2).2;have E:cY S ((((S.upd ba ⟨2,1,2,fun j=>[AV.int .i64 1,.int .i64 0].getD j .any⟩).upd bb ⟨2,1,2,fun j=>[AV.int .i64 0,.int .i64 1].getD j .any⟩).upd bh ⟨29,1,2,fun j=>[AV.sl 1 ba 0 2,.sl 1 bb 0 2].getD j .any⟩).upd bd ⟨2,1,2,fun j=>[AV.int .i64 1,.int .i64 2].getD j .any⟩):=((((cY.refl S).upd fa _).upd fb' _).upd fh' _).upd fd' _;have ua:((((S.upd ba ⟨2,1,2,fun j=>[AV.int .i64 1,.int .i64 0].getD j .any⟩).upd bb ⟨2,1,2,fun j=>[AV.int .i64 0,.int .i64 1].getD j .any⟩).upd bh ⟨29,1,2,fun j=>[AV.sl 1 ba 0 2,.sl 1 bb 0 2].getD j .any⟩).upd bd ⟨2,1,2,fun j=>[AV.int .i64 1,.int .i64 2].getD j .any⟩) ba=some ⟨2,1,2,fun j=>[AV.int .i64 1,.int .i64 0].getD j .any⟩:=(aH (ai nd_a)).trans ((aH (ai nh_a)).trans ((aH (ai nb_a)).trans bR));have ub:((((S.upd ba ⟨2,1,2,fun j=>[AV.int .i64 1,.int .i64 0].getD j .any⟩).upd bb ⟨2,1,2,fun j=>[AV.int .i64 0,.int .i64 1].getD j .any⟩).upd bh ⟨29,1,2,fun j=>[AV.sl 1 ba 0 2,.sl 1 bb 0 2].getD j .any⟩).upd bd ⟨2,1,2,fun j=>[AV.int .i64 1,.int .i64 2].getD j .any⟩) bb=some ⟨2,1,2,fun j=>[AV.int .i64 0,.int .i64 1].getD j .any⟩:=(aH (ai nd_b)).trans ((aH (ai nh_b)).trans bR);have uh:((((S.upd ba ⟨2,1,2,fun j=>[AV.int .i64 1,.int .i64 0].getD j .any⟩).upd bb ⟨2,1,2,fun j=>[AV.int .i64 0,.int .i64 1].getD j .any⟩).upd bh ⟨29,1,2,fun j=>[AV.sl 1 ba 0 2,.sl 1 bb 0 2].getD j .any⟩).upd bd ⟨2,1,2,fun j=>[AV.int .i64 1,.int .i64 2].getD j .any⟩) bh=some ⟨29,1,2,fun j=>[AV.sl 1 ba 0 2,.sl 1 bb 0 2].getD j .any⟩:=(aH (ai nd_h)).trans bR;have ud:((((S.upd ba ⟨2,1,2,fun j=>[AV.int .i64 1,.int .i64 0].getD j .any⟩).upd bb ⟨2,1,2,fun j=>[AV.int .i64 0,.int .i64 1].getD j .any⟩).upd bh ⟨29,1,2,fun j=>[AV.sl 1 ba 0 2,.sl 1 bb 0 2].getD j .any⟩).upd bd ⟨2,1,2,fun j=>[AV.int .i64 1,.int .i64 2].getD j .any⟩) bd=some ⟨2,1,2,fun j=>[AV.int .i64 1,.int .i64 2].getD j .any⟩:=bR;generalize ((((S.upd ba ⟨2,1,2,fun j=>[AV.int .i64 1,.int .i64 0].getD j .any⟩).upd bb ⟨2,1,2,fun j=>[AV.int .i64 0,.int .i64 1].getD j .any⟩).upd bh ⟨29,1,2,fun j=>[AV.sl 1 ba 0 2,.sl 1 bb 0 2].getD j .any⟩).upd bd ⟨2,1,2,fun j=>[AV.int .i64 1,.int .i64 2].getD j .any⟩)=S5 at *;clear fb fh fd;have p:=C.ext E;have two:∀{P:Nat->Prop},P 0->P 1->∀i,i<2->P i:=fun I w i a=>by
  rcases (om:i=0∨i=1)with rfl|rfl
  ·exact I
  ·exact w
 have F:cT S5 bh (fun i=>if i=0 then ba else bb) 2 2 I2:=⟨⟨_,uh,two rfl rfl⟩,two ⟨_,ua,two rfl rfl⟩ ⟨_,ub,two rfl rfl⟩,fun i j a n e=>by
  rcases (om:i=0∨i=1)with rfl|rfl<;>rcases (om:j=0∨j=1)with rfl|rfl
  ·rfl
  ·exact absurd e (ai nb_a)
  ·exact absurd e nb_a
  ·rfl⟩
 have y:aR S5 bd 2 1 2 (fun k=>.int .i64 ((v12 k:Nat):Int)):=⟨_,ud,two rfl rfl⟩;refine(GU S5 bd 2 5 bh _ I2 v12 qW wa dc tv y p F nd_h (two nd_a nd_b) (q fh') (two (q fa) (q fb'))).mono ?_
 rintro _ S6 ⟨Q,r,t,g,gt,rfl,x,J,s,o⟩;have c:cT S6 r g 2 2 I2:=J.congr fun i j a n=>FC x a n;have d:=F.ext o;have u:=p.ext o;simp -dsimp only[go_sem,aa,e9];refine(oD 2 2 I2 om om).spec (dT.two c.vr.va d.vr.va) ?_;simp -dsimp only[go_sem,aa,Bm];refine au.intro fun be fe=>?_
 try simp -dsimp only[go_sem,e9]
 obtain⟨K,N,L,O⟩:=id u;have l:∀{b ty:Nat} {f:Nat->AV},aR S6 b ty 1 2 f->0≠b:=by
  rintro b ty f ⟨z,w,_⟩ rfl;rw[L]at w
  cases w
 have m:cY S6 (S6.upd be ⟨2,1,2,fun j=>[AV.int .i64 1,.int .i64 2].getD j .any⟩):=(cY.refl S6).upd fe _;have A:aR (S6.upd be ⟨2,1,2,fun j=>[AV.int .i64 1,.int .i64 2].getD j .any⟩) be 2 1 2 (fun k=>.int .i64 ((v12 k:Nat):Int)):=⟨_,bR,two rfl rfl⟩;have nf:∀{b ty:Nat} {f:Nat->AV},aR S6 b ty 1 2 f->be≠b:=fun h=>ai (aR.fresh h fe);refine(C6 _ be 2 5 bh r t _ g gt I2 I2 (jf 2 Q) v12 qW wa dc tv A (u.ext m)
  (d.ext m) (nf d.outer) (fun i a=>nf (d.row i a)) (l d.outer) (fun i a=>l (d.row i a))
  (c.ext m) (nf c.outer) (fun i a=>nf (c.row i a)) (l c.outer) (fun i a=>l (c.row i a))
  (s.ext m) (nf s.outer) (fun i a=>nf (s.row i a)) (l s.outer) (fun i a=>l (s.row i a))
  1 20 qW (fun i j a n=>by unfold nb I2;split<;>decide) (fun i j a n=>IY x a n) om om (IZ x) (fun Q' v i j a n=>by
   obtain rfl:=v.uniq qW dc x
   exact El v a n)).mono ?_
 rintro _ S8 ⟨rfl,B⟩;simp -dsimp only[go_sem,e9];exact((E.trans o).trans m).trans B

end Go.Proofs.YtdobfmlmenaajaaGreatDoor
