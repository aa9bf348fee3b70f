/-
  Lemmas for NeighbourVerify.
-/
import Derived.Test.YtdobfmlmenaajaaGreatDoorV17
namespace Go.Proofs.YtdobfmlmenaajaaGreatDoor
open Go.RowKit Tryz
set_option maxHeartbeats 6400000
set_option maxRecDepth 4096
set_option linter.all false
attribute [local go_sem] Nat.reduceAdd Nat.reduceEqDiff Nat.reduceLeDiff Nat.reduceLT reduceCtorEq Int.ofNat_lt decide_true decide_false Int.zero_le_ofNat
attribute [local go_sem ↓] reduceIte
variable{E b d i j m n:Nat}{g:Nat->Nat}{S:St}{A Q R:aH}
inductive Ev where
 | size (i j:Nat)
 | swap (i:Nat)
 | done
def xi(A:aH)(n:Nat):Ev->Prop
 | .size i j=>j<i/\i<n/\kh A i/\(∀j',j<j'->j'<i->iR A i j')/\¬iR A i j
 | .swap i=>0<i/\i<n/\kh A i/\(∀j',j'<i->iR A i j')/\¬iH A i
 | .done=>kh A n
def kC(n:Nat):Ev->Nat
 | .size i _=>i
 | .swap i=>i
 | .done=>n
def JW(A:aH)(i j:Nat):Int:=- ((2*kZ A i j+det (j+1) A)/(2*det (j+1) A))
def R9(A:aH):Ev->aH
 | .size i j=>eQ kR j i (JW A i j)
 | .swap i=>fun a b=>kR (dX (i-1) i a) b
 | .done=>kR
def evV(n:Nat)(A:aH)(ev:Ev):AV:=match ev with
 | .done=>.tup [.nil,.bool false]
 | e=>.tup [aU n n (R9 A e),.bool true]
def xi.ok{ev:Ev}(h:xi A n ev):kh A (kC n ev)/\kC n ev<=n:=by
 cases ev with
 | size i j=>exact⟨h.2.2.1,dp h.2.1⟩
 | swap i=>exact⟨h.2.2.1,dp h.2.1⟩
 | done=>exact⟨h,ae _⟩
def Qn(A:aH)(n:Nat):∃ev,xi A n ev:=by
 have key:∀i,i<=n->kh A i∨∃ev,xi A n ev:=by
  intro i
  induction i with
  | zero=>intro _;exact bW ⟨fun r d=>om,fun r _ d=>om⟩
  | succ i ih =>
   intro m;rcases ih om with h|h
   .have row:∀t,t<=i->(∀j',i-t<=j'->j'<i->iR A i j')∨∃ev,xi A n ev:=by
     intro t
     induction t with
     | zero=>intro _;exact bW (fun j' a b=>om)
     | succ t iht =>
      intro o;rcases iht om with a|a
      .rcases jq (iR A i (i-(t+1)))with b|b
       .refine bW (fun j' f g=>?_);by_cases e:j'=i-(t+1)
        .rw[e];exact b
        .exact a j' om g
       .exact bQ ⟨.size i (i-(t+1)),om,om,h,fun j' f g=>a j' om g,b⟩
      .exact bQ a
    rcases row i (ae _)with a|a
    .have k:∀j',j'<i->iR A i j':=fun j' c=>a j' om c;rcases bn i with l|l
     .refine bW ⟨fun r d j c=>?_,fun r b d=>om⟩
      omega
     .rcases jq (iH A i)with b|b
      .refine bW ⟨fun r d j c=>?_,fun r f d=>?_⟩
       .by_cases e:r=i
        .rw[e]at c ⊢;exact k j c
        .exact h.1 r om j c
       .by_cases e:r=i
        .rw[e];exact b
        .exact h.2 r f om
      .exact bQ ⟨.swap i,l,om,h,k,b⟩
    .exact bQ a
   .exact bQ h
 rcases key n (ae _)with h|h
 .exact⟨.done,h⟩
 .exact h
def dE.swap'{A:Nat->Nat->Int}(h:dE S b g n m A){p k:Nat}(d:p<n)(e:k<n)(a:p≠k){c:Nat->AV}(f:S b=some ⟨59,1,n,c⟩) :
  dE ((S.upd b ⟨59,1,n,bR c p (.sl 2 (g k) 0 m)⟩).upd b ⟨59,1,n,bR (bR c p (.sl 2 (g k) 0 m)) k (.sl 2 (g p) 0 m)⟩) b (fun i=>g (dX k p i)) n m (fun i j=>A (dX k p i) j):=by
 rw[mD];exact h.swap d e a f
def Di(n:Nat)(A:aH)(s:Nat)(h1:1<=n)(h2:n<=8)(E:∀i j,i<n->j<n->nb (A i j) s)(hk:s<=500000)(G:∀k,k<=n->0<det k A)(ev:Ev)(t:xi A n ev):PF 112 [aU n n A] (evV n A ev):=by
 refine jo func112 ntmps112 results112 ?_;obtain⟨v,hrn⟩:=t.ok;simp -dsimp only[go_sem,aa];refine(tD n A s h1 om E om).call ?_;simp -dsimp only[go_sem,aa,aU];refine(rU n h1 om _ _ (cY _ _)).mono ?_;rintro r S1 ⟨b,g,rfl,H⟩;simp only[go_sem];refine aI (fun O S=>∃i:Nat,i<=kC n ev/\O 0=aU n n A/\O 4=bC n (fun k=>det (k+1) A)/\O 6=.sl 1 b 0 n/\O 22=.int .i64 n/\O 23=.int .i64 i/\S=S1) (fun O S=>n-co (O 23)) ?_ ?_
 .simp only[go_sem,aU,bC];exact⟨0,om,rfl⟩
 .rintro O S ⟨i,hi,e0,e4,Q,I,J,rfl⟩;by_cases f:i<n
  .have hw:IntKind.i64.wrap ((i:Int)-1)=(i:Int)-1:=i64_in om om;simp only[*,go_sem];refine aI (fun O S'=>∃jj:Nat,jj<=i/\(∀j',jj<=j'->j'<i->iR A i j')/\(∀j,ev=.size i j->j<jj)/\O 0=aU n n A/\O 4=bC n (fun k=>det (k+1) A)/\O 6=.sl 1 b 0 n/\O 8=.int .i64 i/\O 9=.int .i64 ((jj:Int)-1)/\O 22=.int .i64 n/\O 23=.int .i64 i/\S'=S) (fun O S=>match O 9 with|.int _ z=>(z+1).toNat|_=>0) ?_ ?_
   .simp only[*,go_sem];refine⟨i,om,fun j' R F=>om,fun j K=>?_,rfl⟩
    subst K;exact t.1
   .rintro O S' ⟨jj,hjj,L,w,e0,e4,Q,e8,T,I,J,rfl⟩;rcases bn jj with h0|h0
    .subst h0;have hall:∀j',j'<i->iR A i j':=fun j' K=>L j' om K;have M:∀j,ev≠.size i j:=fun j K=>by have:=w j K;omega
     have U:¬((0:Int)<=((0:Nat):Int)-1):=om
     rcases bn i with u|u
     .subst u;have V:(0:Nat)≠kC n ev:=fun e=>by
       cases ev with
       | size a c=>have:=t.1;simp only[kC]at e;omega
       | swap a=>have:=t.1;simp only[kC]at e;omega
       | done=>simp only[kC]at e;omega
      simp -dsimp only[go_sem,aa,e0,e4,Q,e8,T,I,J,show((0:Nat):Int)=0 from rfl,Pa,show IntKind.i64.wrap ((0:Int)+1)=1 from rfl,co];refine⟨⟨1,om,rfl⟩,?_⟩
      simp;omega
     .have hi0':(0:Int)<(i:Int):=om
      simp -dsimp only[*,go_sem,aa];refine(CR n i A s u f om E om).call ?_;by_cases N:iH A i
      .have x:decide (3*(det i A*det i A)<=4*(det (i-1) A*det (i+1) A+kZ A i (i-1)*kZ A i (i-1)))=true:=by simpa [iH]using N
       rw[x];simp only[*,go_sem,aS (om:i<1000000),co]
       have V:i≠kC n ev:=fun e=>by
        cases ev with
        | size a c=>simp only[kC]at e;subst e;exact M c rfl
        | swap a=>simp only[kC]at e;subst e;exact t.2.2.2.2 N
        | done=>simp only[kC]at e;omega
       exact⟨⟨i+1,om,rfl⟩,om⟩
      .have x:decide (3*(det i A*det i A)<=4*(det (i-1) A*det (i+1) A+kZ A i (i-1)*kZ A i (i-1)))=false:=by simpa [iH]using N
       rw[x];have o:ev=.swap i:=by
        have d:i=kC n ev:=by
         rcases aF i (kC n ev)with h|h
         .exact absurd (v.2 i u h) N
         .omega
        cases ev with
        | size a c=>simp only[kC]at d;subst d;exact absurd rfl (M c)
        | swap a=>simp only[kC]at d;rw[d]
        | done=>simp only[kC]at d;omega
       subst o;obtain⟨m,rfl⟩:∃m,i=m+1:=⟨i-1,om⟩
       have W:IntKind.i64.wrap (((m+1:Nat):Int)-1)=(m:Nat):=eF om om;have y:m<n:=om
       obtain⟨X,Y,P⟩:=H.1.outer;have w1:X (m+1)=.sl 2 (g (m+1)) 0 n:=P (m+1) f;have w2:X m=.sl 2 (g m) 0 n:=P m y;simp -dsimp only[*,go_sem];refine fQ 15 [[2,3,4]] kr ?_
       simp only[go_sem,aa,Q,e8,f,W,Y,w1,w2,y];have Z:=H.1.swap' (p:=m+1) (k:=m) f y om Y;exact VR.tup2 (Z.vr) (VR.mf rfl)
    .obtain⟨j,rfl⟩:∃j,jj=j+1:=⟨jj-1,om⟩
     have e9':O 9=.int .i64 (j:Int):=by rw[T];congr 1;omega
     clear T;simp -dsimp only[*,go_sem,aa];refine(Gr n i j A s om f om E om).call ?_;by_cases B:iR A i j
     .have C:decide (2*((kZ A i j).natAbs:Int)<=det (j+1) A)=true:=by simpa [iR]using B
      rw[C];have hw2:IntKind.i64.wrap ((j:Int)-1)=(j:Int)-1:=i64_in om om;simp only[*,go_sem];refine⟨⟨j,om,fun j' R F=>?_,fun c U=>?_,rfl⟩,om⟩
      .by_cases e:j'=j
       .rw[e];exact B
       .exact L j' om F
      .have R:=w c U;have F:c≠j:=fun e=>by
        subst e;subst U;exact t.2.2.2.2 B
       omega
     .have C:decide (2*((kZ A i j).natAbs:Int)<=det (j+1) A)=false:=by simpa [iR]using B
      rw[C];have o:ev=.size i j:=by
       have d:i=kC n ev:=by
        rcases aF i (kC n ev)with h|h
        .exact absurd (v.1 i h j om) B
        .omega
       cases ev with
       | size a c =>
        simp only[kC]at d;subst d;have R:=w c rfl;rcases aF c j with F|F
        .exact absurd (t.2.2.2.1 j F om) B
        .rw[(om:c=j)]
       | swap a=>simp only[kC]at d;subst d;exact absurd (t.2.2.2.1 j om) B
       | done=>simp only[kC]at d;omega
      subst o;have D:j<n:=om
      have l:=Hx (n:=n) (i:=i) (j:=j) om E om f;have hd:=oO (k:=j+1) (n:=n) om E om;have q:=G (j+1) om;have hnear:(2*rN (kZ A i j) (det (j+1) A)+rD (kZ A i j) (det (j+1) A))/(2*rD (kZ A i j) (det (j+1) A))=(2*kZ A i j+det (j+1) A)/(2*det (j+1) A):=by
       have hp:=ql (a:=kZ A i j) q;have hr:=Jv (a:=kZ A i j) (b:=det (j+1) A);refine oR om om ?_
       grind
      have hnq:nb ((2*kZ A i j+det (j+1) A)/(2*det (j+1) A)) (17*(s+10)+1+1):=by
       have h5:nb (2*kZ A i j) (17*(s+10)+1):=by
        have:2*kZ A i j=kZ A i j+kZ A i j:=om
        rw[this];exact l.add l
       exact nb.of_le (jL ..) (h5.add (hd.mono om))
      obtain⟨X,Y,P⟩:=H.1.outer;obtain⟨g2,u2,v2⟩:=H.1.row j D;have w1:=P j D;simp -dsimp only[*,go_sem];refine bD 17 kr ?_
      simp only[*,go_sem,aa,aS (om:j<1000000)]
      refine⟨_,(xf n i j A s om f om E om).pure',_,(pL n (j+1) A om om).pure',_,(Gt l hd om q).pure',_,(IP (k:=17*(s+10)) (zQ q l) (zR q hd) om om (ql q)).pure',_,(t8 (k:=17*(s+10)+1+1) (by rw[hnear];exact hnq) om).pure',?_⟩
      rw[hnear];simp only[go_sem];exact VR.tup2 ((H.1.set D u2).vr) (VR.mf rfl)
  .obtain rfl:i=n:=om
   simp only[*,go_sem]
   cases ev with
   | size a c=>have:=t.2.1;simp only[kC]at hi;omega
   | swap a=>have:=t.2.1;simp only[kC]at hi;omega
   | done=>exact VR.tup2 (VR.mf rfl) (VR.mf rfl)

inductive IN (Q:aH) (n:Nat):aH->aH->Prop where
 | done {R:aH}:xi (gT Q n R) n .done->IN Q n R R
 | size {R R':aH} {i j:Nat}:xi (gT Q n R) n (.size i j)->IN Q n (rl R i j (-JW (gT Q n R) i j)) R'->IN Q n R R'
 | swap {R R':aH} {i:Nat}:xi (gT Q n R) n (.swap i)->IN Q n (fun a b=>R (dX (i-1) i a) b) R'->IN Q n R R'
def FN(A:aH)(i j:Nat):-JW A i j=sQ (kZ A i j) (det (j+1) A):=by
 unfold JW sQ;rw[IX,(om:kZ A i j+kZ A i j+det (j+1) A=2*kZ A i j+det (j+1) A),(om:det (j+1) A+det (j+1) A=2*det (j+1) A)]
def wP(E c n pl i:Nat):Nat:=E+c*(pl-i*(n+1))
def wP_le{c pl:Nat}(h:pl<=m):wP E c n pl i<=E+c*m:=by
 unfold wP;have:=aL c (om:pl-i*(n+1)<=m)
 omega
structure GK(Q:aH)(n d E:Nat)(R:aH):Prop where
 ls:LS Q n d (wP E (3*d+8) n (lP (gT Q n R) n)) R
 dn:det n (gT Q n R)=det n Q
def QI(h:Pd A n)(a:i<n)(b:j<i):2*((kZ A i j+JW A i j*det (j+1) A).natAbs:Int)<=det (j+1) A:=JM (h.pos (j+1) om)
def GK.add(h:GK Q n d E R)(s:∀a b,a<n->b<n->Q a b=Q b a)(v:n<=8)(B:d+3<=E)(w:xi (gT Q n R) n (.size i j)) :
  GK Q n d E (rl R i j (-JW (gT Q n R) i j))/\wx (gT Q n (rl R i j (-JW (gT Q n R) i j))) n<wx (gT Q n R) n:=by
 obtain⟨f,g,k,t,x⟩:=w;have l:gT Q n R j j<=2^(d+3):=h.ls.row v om (fun c m=>k.1 j f c m);have o:=KX (n:=n) f g k t x (QI h.ls.pd g f);have y:i*(n+1)+(i-(j+1))<=lP (gT Q n R) n:=by
  refine wC (fun c m=>CE k (fun j' C z=>t j' om z) om g m) _ ?_;have:(i+1)*(n+1)<=n*(n+1):=aD _ g;rw[dl]at this;omega
 have p:gT Q n (rl R i j (-JW (gT Q n R) i j))=mA (gT Q n R) i j (JW (gT Q n R) i j):=by rw[Ih s,IX]
 refine⟨⟨?_,?_⟩,?_⟩
 .have A:=h.ls.weak (w':=fun a=>if a=j then d+3 else wP E (3*d+8) n (lP (gT Q n R) n) a) (fun a q=>by
   try dsimp only
   by_cases e:a=j
   .subst e;rw[ah rfl];exact l
   .rw[af e];exact h.ls.dg a q)
  have r:=A.sub s f g (by(try dsimp only);rw[ah rfl];exact ae _)
  rw[<-FN]at r;refine r.weak fun a q=>gD (r.dg a q) (iY ?_);rw[p];generalize lP (gT Q n R) n=pl at *;generalize lP (mA (gT Q n R) i j (JW (gT Q n R) i j)) n=pl' at *
  try dsimp only
  by_cases e:a=i
  .subst e;rw[ah rfl,af om];unfold wP;have u:=aL (3*d+8) (om:pl-a*(n+1)+1<=pl'-a*(n+1))
   rw[cj]at u;omega
  .rw[af e];unfold wP;have u:=aL (3*d+8) (om:pl-a*(n+1)<=pl'-a*(n+1))
   split<;>omega
 .rw[p,kO f];exact h.dn
 .rw[p];exact Nu f o
def GK.swap(h:GK Q n d E R)(s:n<=8)(t:d+3<=E)(u:xi (gT Q n R) n (.swap i)) :
  GK Q n d E (fun a b=>R (dX (i-1) i a) b)/\wx (gT Q n (fun a b=>R (dX (i-1) i a) b)) n<wx (gT Q n R) n:=by
 obtain⟨f,g,v,w,m⟩:=u;have l:gT Q n (fun a b=>R (dX (i-1) i a) b)=EH (gT Q n R) i:=rfl;have x:lP (gT Q n R) n<=i*(n+1)+i:=by
  refine tH ?_ _;rw[F5 om];exact fun y=>m (y.2 rfl f)
 have j:∀a,a<n->gT Q n R a a<=2^E:=fun a o=>by
  rcases aF i a with p|p
  .refine gD (h.ls.dg a o) (iY ?_);unfold wP;have:(i+1)*(n+1)<=a*(n+1):=aD _ p;rw[dl]at this;rw[(om:lP (gT Q n R) n-a*(n+1)=0)]
   omega
  .refine gD (h.ls.row s o fun c r=>?_) (iY t);by_cases e:a=i
   .subst e;exact w c r
   .exact v.1 a om c r
 refine⟨⟨⟨?_,fun k q=>?_,?_,fun a o=>?_⟩,?_⟩,?_⟩
 .rw[l];exact h.ls.pd.swap f g
 .rw[l];by_cases e:k=i
  .subst e;have p:=B9 h.ls.pd f g m;have B:=h.ls.lead k q;have C:=(h.ls.pd.swap f g).pos k q;omega
  .rw[oL f e];exact h.ls.lead k q
 .have z:det n (sJ (fun a b=>R (dX (i-1) i a) b))=- det n (sJ R):=oK (sJ R) (n:=n) (i:=i-1) (k:=i) om g om;rw[z,qc];exact h.ls.uni
 .have A:dX (i-1) i a<n:=by unfold dX;split<;>(try split)<;>omega
  exact gD (j _ A) (iY (by unfold wP;omega))
 .rw[l,oL f om];exact h.dn
 .rw[l];exact K9 h.ls.pd f g m
def PJ(q:∀a b,a<n->b<n->Q a b=Q b a)(l:n<=8)(o:d+3<=E):∀(m:Nat) (R:aH),GK Q n d E R->wx (gT Q n R) n<=m->∃R',IN Q n R R'/\GK Q n d E R'/\kh (gT Q n R') n:=by
 intro m
 induction m with
 | zero =>
  intro R h p;exfalso;have e:=h.ls.pd.pot_pos;unfold wx at p;have:0<PR (gT Q n R) n*(n*(n+1)+1):=IR e om;omega
 | succ m ih =>
  intro R h p;obtain⟨ev,c⟩:=Qn (gT Q n R) n
  cases ev with
  | done=>exact⟨R,.done c,h,c⟩
  | size i j =>
   obtain⟨e,r⟩:=h.add q l o c;obtain⟨R',f,g,k⟩:=ih _ e om;exact⟨R',.size c f,g,k⟩
  | swap i =>
   obtain⟨e,r⟩:=h.swap l o c;obtain⟨R',f,g,k⟩:=ih _ e om;exact⟨R',.swap c f,g,k⟩
def GK.init{e:Nat}(f:Pd Q n)(b:1<=n)(c:∀i,i<n->Q i i<=2^e)(g:e*n<=d)(j:d<=E):GK Q n d E kR:=by
 have h:=(Ub.init f b c g).ls;refine⟨h.weak fun i a=>?_,qw (ae n)⟩;rw[wD a a];refine gD (c i a) (iY ?_);have:=aL e b;unfold wP;omega
structure QF(n:Nat)(Q:aH):Prop where
 pd:Pd Q n
 one:1<=n
 five:n<=5
 ent:∀i j,i<n->j<n->(Q i j).natAbs<=246591576450
 dt:det n Q<=10000
def p2_38:(2:Int)^38=274877906944:=by decide
def QF.e(h:QF n Q):∀i,i<n->Q i i<=2^38:=fun i a=>by
 have:=h.ent i i a a;rw[p2_38];omega
def QF.init(h:QF n Q):GK Q n 190 193 kR:=GK.init h.pd h.one h.e (by have:=h.five;omega) om
def Nf(a:n<=5):lP A n<=30:=by
 have b:=zV A n;have c:n*(n+1)<=5*6:=aV a om;omega
def GK.bits(h:GK Q n 190 193 R)(f:QF n Q):(∀i j,i<n->j<n->(gT Q n R i j).natAbs<2^17540)/\(∀i j,i<n->j<n->(R i j).natAbs<2^17740)/\∀i j,i<n->j<i->(JW (gT Q n R) i j).natAbs<2^17940:=by
 obtain⟨m,rfl⟩:∃m,n=m+1:=⟨n-1,by have:=f.one;omega⟩
 have q:=f.five;have g:∀i,wP 193 (3*190+8) (m+1) (lP (gT Q (m+1) R) (m+1)) i<=17533:=fun i=>wP_le (Nf q);obtain⟨W,k,r⟩:∃W,17533<=W/\W<=17533:=⟨_,ae _,ae _⟩;have o:∀i,i<m+1->gT Q (m+1) R i i<=2^W:=fun i b=>gD (h.ls.dg i b) (iY (a9 (g i) k));refine⟨fun i j b c=>?_,fun i j b c=>?_,fun i j b c=>?_⟩
 .have d:=h.ls.pd.cs0 b c;have p:=Ni (cC (h.ls.pd.diag c)) (o i b) (o j c);exact Nj (b:=17540) (Ng (a:=W) (gD d (gD p (iY om)))) om
 .have d:=h.ls.coord f.pd f.e om b c;exact Nj (b:=17740) (Ng (a:=190+W) (gD d (iY (by have:=g i;omega)))) om
 .have d:=Fw (l:=kZ (gT Q (m+1) R) i j) (h.ls.pd.pos (j+1) om);have p:=h.ls.lamB c b;rw[<-FN,qc]at d;have s:=iY (show 190+(190+wP 193 (3*190+8) (m+1) (lP (gT Q (m+1) R) (m+1)) i)<=190+(190+W) by have:=g i;omega)
  have t:=Nh (190+(190+W));have u:=qn (190+(190+W)) 3;have v:=iY (om:190+(190+W)+3<=2*(390+W))
  exact Nj (b:=17940) (Ng (a:=390+W) om) om

end Go.Proofs.YtdobfmlmenaajaaGreatDoor
