/-
  Lemmas for NeighbourGram.
-/
import Derived.Test.YtdobfmlmenaajaaGreatDoorG18
namespace Go.Proofs.YtdobfmlmenaajaaGreatDoor
open Go.RowKit Tryz
open _root_.Int renaming tmod→eN,reduceBEq→B7
open _root_.Option renaming none→ab
set_option maxHeartbeats 6400000
set_option maxRecDepth 4096
set_option linter.all false
attribute [local go_sem] Nat.reduceAdd Nat.reduceEqDiff Nat.reduceLeDiff Nat.reduceLT reduceCtorEq Int.ofNat_lt decide_true decide_false Int.zero_le_ofNat
attribute [local go_sem ↓] reduceIte
variable{m q z:Int}{args:List AV}{E N a b bt c d i j n p:Nat}{g2:Nat->AV}{f:Nat->Int}{g:Nat->Nat}{S S' S0:St}{O:Tm}{A H Q R:aJ}
inductive Ha (Q:aJ) (n:Nat):aJ->aJ->Prop where
 | done {R:aJ}:vL (gT Q n R) n .done->Ha Q n R R
 | size {R R':aJ} {i j:Nat}:vL (gT Q n R) n (.size i j)->Ha Q n (ql R i j (-IL (gT Q n R) i j)) R'->Ha Q n R R'
 | swap {R R':aJ} {i:Nat}:vL (gT Q n R) n (.swap i)->Ha Q n (fun a b=>R (dG (i-1) i a) b) R'->Ha Q n R R'
def ES(A:aJ)(i j:Nat):-IL A i j=ru (kt A i j) (det (j+1) A):=by
 unfold IL ru;rw[Hi,(om:kt A i j+kt A i j+det (j+1) A=2*kt A i j+det (j+1) A),(om:det (j+1) A+det (j+1) A=2*det (j+1) A)]
def wP(E c n pl i:Nat):Nat:=E+c*(pl-i*(n+1))
def wP_le{pl m:Nat}(h:pl<=m):wP E c n pl i<=E+c*m:=by
 unfold wP;have:=aL c (om:pl-i*(n+1)<=m)
 omega
structure FL(Q:aJ)(n d E:Nat)(R:aJ):Prop where
 ls:LS Q n d (wP E (3*d+8) n (lC (gT Q n R) n)) R
 dn:det n (gT Q n R)=det n Q
def O5(h:Pd A n)(a:i<n)(b:j<i):2*((kt A i j+IL A i j*det (j+1) A).natAbs:Int)<=det (j+1) A:=Iv (h.pos (j+1) om)
def FL.add(h:FL Q n d E R)(s:∀a b,a<n->b<n->Q a b=Q b a)(v:n<=8)(B:d+3<=E)(w:vL (gT Q n R) n (.size i j)) :
  FL Q n d E (ql R i j (-IL (gT Q n R) i j))/\uR (gT Q n (ql R i j (-IL (gT Q n R) i j))) n<uR (gT Q n R) n:=by
 obtain⟨f,g,k,t,x⟩:=w;have l:gT Q n R j j<=2^(d+3):=h.ls.row v om (fun c m=>k.1 j f c m);have o:=Jz (n:=n) f g k t x (O5 h.ls.pd g f);have y:i*(n+1)+(i-(j+1))<=lC (gT Q n R) n:=by
  refine uU (fun c m=>BN k (fun j' C z=>t j' om z) om g m) _ ?_;have:(i+1)*(n+1)<=n*(n+1):=aC _ g;rw[cQ]at this;omega
 have p:gT Q n (ql R i j (-IL (gT Q n R) i j))=lR (gT Q n R) i j (IL (gT Q n R) i j):=by rw[GH s,Hi]
 refine⟨⟨?_,?_⟩,?_⟩
 .have A:=h.ls.weak (w':=fun a=>if a=j then d+3 else wP E (3*d+8) n (lC (gT Q n R) n) a) (fun a q=>by
   try dsimp only
   by_cases e:a=j
   .subst e;rw[ai rfl];exact l
   .rw[af e];exact h.ls.dg a q)
  have r:=A.sub s f g (by(try dsimp only);rw[ai rfl];exact ae _)
  rw[<-ES]at r;refine r.weak fun a q=>fZ (r.dg a q) (iD ?_);rw[p];generalize lC (gT Q n R) n=pl at *;generalize lC (lR (gT Q n R) i j (IL (gT Q n R) i j)) n=pl' at *
  try dsimp only
  by_cases e:a=i
  .subst e;rw[ai rfl,af om];unfold wP;have u:=aL (3*d+8) (om:pl-a*(n+1)+1<=pl'-a*(n+1))
   rw[bS]at u;omega
  .rw[af e];unfold wP;have u:=aL (3*d+8) (om:pl-a*(n+1)<=pl'-a*(n+1))
   split<;>omega
 .rw[p,kb f];exact h.dn
 .rw[p];exact L3 f o
def FL.swap(h:FL Q n d E R)(s:n<=8)(t:d+3<=E)(u:vL (gT Q n R) n (.swap i)) :
  FL Q n d E (fun a b=>R (dG (i-1) i a) b)/\uR (gT Q n (fun a b=>R (dG (i-1) i a) b)) n<uR (gT Q n R) n:=by
 obtain⟨f,g,v,w,m⟩:=u;have l:gT Q n (fun a b=>R (dG (i-1) i a) b)=DE (gT Q n R) i:=rfl;have x:lC (gT Q n R) n<=i*(n+1)+i:=by
  refine sd ?_ _;rw[Fc om];exact fun y=>m (y.2 rfl f)
 have j:∀a,a<n->gT Q n R a a<=2^E:=fun a o=>by
  rcases aA i a with p|p
  .refine fZ (h.ls.dg a o) (iD ?_);unfold wP;have:(i+1)*(n+1)<=a*(n+1):=aC _ p;rw[cQ]at this;rw[(om:lC (gT Q n R) n-a*(n+1)=0)]
   omega
  .refine fZ (h.ls.row s o fun c r=>?_) (iD t);by_cases e:a=i
   .subst e;exact w c r
   .exact v.1 a om c r
 refine⟨⟨⟨?_,fun k q=>?_,?_,fun a o=>?_⟩,?_⟩,?_⟩
 .rw[l];exact h.ls.pd.swap f g
 .rw[l];by_cases e:k=i
  .subst e;have p:=Ba h.ls.pd f g m;have B:=h.ls.lead k q;have C:=(h.ls.pd.swap f g).pos k q;omega
  .rw[nA f e];exact h.ls.lead k q
 .have z:det n (t9 (fun a b=>R (dG (i-1) i a) b))=- det n (t9 R):=ny (t9 R) (n:=n) (i:=i-1) (k:=i) om g om;rw[z,vJ];exact h.ls.uni
 .have A:dG (i-1) i a<n:=by unfold dG;split<;>(try split)<;>omega
  exact fZ (j _ A) (iD (by unfold wP;omega))
 .rw[l,nA f om];exact h.dn
 .rw[l];exact JE h.ls.pd f g m
def N8(q:∀a b,a<n->b<n->Q a b=Q b a)(l:n<=8)(o:d+3<=E):∀(m:Nat) (R:aJ),FL Q n d E R->uR (gT Q n R) n<=m->∃R',Ha Q n R R'/\FL Q n d E R'/\jG (gT Q n R') n:=by
 intro m
 induction m with
 | zero =>
  intro R h p;exfalso;have e:=h.ls.pd.pot_pos;unfold uR at p;have:0<Of (gT Q n R) n*(n*(n+1)+1):=Hf e om;omega
 | succ m ih =>
  intro R h p;obtain⟨ev,c⟩:=OL (gT Q n R) n
  cases ev with
  | done=>exact⟨R,.done c,h,c⟩
  | size i j =>
   obtain⟨e,r⟩:=h.add q l o c;obtain⟨R',f,g,k⟩:=ih _ e om;exact⟨R',.size c f,g,k⟩
  | swap i =>
   obtain⟨e,r⟩:=h.swap l o c;obtain⟨R',f,g,k⟩:=ih _ e om;exact⟨R',.swap c f,g,k⟩
def FL.init{e:Nat}(f:Pd Q n)(b:1<=n)(c:∀i,i<n->Q i i<=2^e)(g:e*n<=d)(j:d<=E):FL Q n d E kd:=by
 have h:=(R5.init f b c g).ls;refine⟨h.weak fun i a=>?_,pw (ae n)⟩;rw[uV a a];refine fZ (c i a) (iD ?_);have:=aL e b;unfold wP;omega
structure QF(n:Nat)(Q:aJ):Prop where
 pd:Pd Q n
 one:1<=n
 five:n<=5
 ent:∀i j,i<n->j<n->(Q i j).natAbs<=246591576450
 dt:det n Q<=10000
def p2_38:(2:Int)^38=274877906944:=by decide
def QF.e(h:QF n Q):∀i,i<n->Q i i<=2^38:=fun i a=>by
 have:=h.ent i i a a;rw[p2_38];omega
def QF.init(h:QF n Q):FL Q n 190 193 kd:=FL.init h.pd h.one h.e (by have:=h.five;omega) om
def LN(a:n<=5):lC A n<=30:=by
 have b:=Et A n;have c:n*(n+1)<=5*6:=bs a om;omega
def FL.bits(h:FL Q n 190 193 R)(g:QF n Q):(∀i j,i<n->j<n->(gT Q n R i j).natAbs<2^17540)/\(∀i j,i<n->j<n->(R i j).natAbs<2^17740)/\∀i j,i<n->j<i->(IL (gT Q n R) i j).natAbs<2^17940:=by
 obtain⟨m,rfl⟩:∃m,n=m+1:=⟨n-1,by have:=g.one;omega⟩
 have r:=g.five;have k:∀i,wP 193 (3*190+8) (m+1) (lC (gT Q (m+1) R) (m+1)) i<=17533:=fun i=>wP_le (LN r);obtain⟨W,o,s⟩:∃W,17533<=W/\W<=17533:=⟨_,ae _,ae _⟩;have p:∀i,i<m+1->gT Q (m+1) R i i<=2^W:=fun i c=>fZ (h.ls.dg i c) (iD (bU (k i) o));refine⟨fun i j c d=>?_,fun i j c d=>?_,fun i j c d=>?_⟩
 .have f:=h.ls.pd.cs0 c d;have q:=LR (co (h.ls.pd.diag d)) (p i c) (p j d);exact LT (b:=17540) (LP (a:=W) (fZ f (fZ q (iD om)))) om
 .have f:=h.ls.coord g.pd g.e om c d;exact LT (b:=17740) (LP (a:=190+W) (fZ f (iD (by have:=k i;omega)))) om
 .have f:=Ey (l:=kt (gT Q (m+1) R) i j) (h.ls.pd.pos (j+1) om);have q:=h.ls.lamB d c;rw[<-ES,vJ]at f;have t:=iD (show 190+(190+wP 193 (3*190+8) (m+1) (lC (gT Q (m+1) R) (m+1)) i)<=190+(190+W) by have:=k i;omega)
  have u:=LQ (190+(190+W));have v:=pj (190+(190+W)) 3;have w:=iD (om:190+(190+W)+3<=2*(390+W))
  exact LT (b:=17940) (LP (a:=390+W) om) om

def uC(b:j≠i)(k:j<n)(l:a<n):az n (fun c=>eV kd j i q c a*f c)=f a+(if a=i then q*f j else 0):=by
 have e:az n (fun c=>eV kd j i q c a*f c)=az n (fun c=>kd c a*f c+(if c=j then(if a=i then q*f j else 0)else 0)):=aF fun c _=>by
  simp only[eV,kd];by_cases g:c=j
  .subst g;by_cases h:a=i
   .subst h;simp[b]
   .simp[h]
  .simp[g]
 rw[e,eP,da a l (fun c _ d=>by simp[kd,d]),da j k (fun c _ d=>by simp[d])]
 simp[kd]
def uB(i:0<p)(d:p<n)(j:a<n):az n (fun c=>kd (dG (p-1) p c) a*f c)=f (dG (p-1) p a):=by
 have g:dG (p-1) p a<n:=by unfold dG;split<;>(try split)<;>omega
 have b:dG (p-1) p (dG (p-1) p a)=a:=by unfold dG;grind
 rw[da (dG (p-1) p a) g (fun c _ h=>?_)]
 .simp[kd,b]
 .have:dG (p-1) p c≠a:=fun e=>h (by rw[<-e];unfold dG;grind)
  simp[kd,this]
def GS(d:j<i)(r:i<n)(e:a<n)(g:b<n):li n (li n (fun p c=>eV kd j i q c p) A) (eV kd j i q) a b=lR A i j q a b:=by
 have h:∀c,c<n->li n (fun p c=>eV kd j i q c p) A a c=A a c+(if a=i then q*A j c else 0):=fun c _=>uC (f:=fun t=>A t c) om om e
 have k:li n (li n (fun p c=>eV kd j i q c p) A) (eV kd j i q) a b=az n (fun c=>eV kd j i q c b*(A a c+(if a=i then q*A j c else 0))):=aF fun c l=>by rw[h c l,cR]
 rw[k,uC (f:=fun c=>A a c+(if a=i then q*A j c else 0)) om om g]
 simp only[lR];by_cases m:a=i<;>by_cases o:b=i<;>simp[m,o]<;>grind
def GR(e:0<p)(d:p<n)(g:a<n)(h:b<n):li n (li n (fun x c=>kd (dG (p-1) p c) x) A) (fun a b=>kd (dG (p-1) p a) b) a b=DE A p a b:=by
 have i:∀c,c<n->li n (fun x c=>kd (dG (p-1) p c) x) A a c=A (dG (p-1) p a) c:=fun c _=>uB (f:=fun t=>A t c) e d g;have j:li n (li n (fun x c=>kd (dG (p-1) p c) x) A) (fun a b=>kd (dG (p-1) p a) b) a b=az n (fun c=>kd (dG (p-1) p c) b*A (dG (p-1) p a) c):=aF fun c k=>by rw[i c k,cR]
 rw[j,uB (f:=fun c=>A (dG (p-1) p a) c) e d h];rfl
def matOf(x:AV):aJ:=fun i j=>match x with
 | .lst _ _ g=>(match g i with
  | .lst _ _ h=>(match h j with
   | .big z=>z
   | _=>0)
  | _=>0)
 | _=>0
def VR.tup3{x y z x' y' z':AV}(c:VR S x x')(d:VR S y y')(f:VR S z z'):VR S (.tup [x,y,z]) (.tup [x',y',z']):=by
 intro w v a b;simp only[bn]at b ⊢;obtain⟨vs,e,h⟩:=b;refine⟨vs,e,?_⟩
 match vs,h with
 | [u,v,t],h=>simp only[aW]at h ⊢;exact⟨c w u a h.1,d w v a h.2.1,f w t a h.2.2.1,trivial⟩
 | [],h=>simp[aW]at h
 | [_],h=>simp[aW]at h
 | [_,_],h=>simp[aW]at h
 | _::_::_::_::_,h=>simp[aW]at h
def Mk(a b k:Nat)(c:1<=k):nb (kd a b) k:=by
 unfold kd;split
 .exact nb.one c
 .exact nb.zero k
def OK(h:(z.natAbs:Int)<=176000):jS z:=by unfold jS;omega

def iA(S:St)(bt N:Nat):Prop:=∃(L:Nat) (nums:Nat->Int) (k:Nat) (g:Nat->AV),S bt=some ⟨107,1,2,g⟩/\g 0=.lst 1 L (fun i=>.int .i8 (nums i))/\g 1=.int .i64 k/\k<=N/\∀i,i<L->-128<=nums i/\nums i<=127
def iA.upd(h:iA S bt N)(a:bt≠c)(X:eE):iA (S.upd c X) bt N:=by
 obtain⟨L,nums,k,g,b,d⟩:=h;exact⟨L,nums,k,g,by rw[aN a];exact b,d⟩
def iA.step(h:iA S bt N)(a:S' bt=S bt):iA S' bt N:=by
 obtain⟨L,nums,k,g,b,c⟩:=h;exact⟨L,nums,k,g,by rw[a];exact b,c⟩
def iA.mono{M:Nat}(h:iA S bt N)(e:N<=M):iA S bt M:=by
 obtain⟨L,nums,k,g,a,b,c,f,d⟩:=h;exact⟨L,nums,k,g,a,b,c,om,d⟩
def iA.ne{ty es:Nat}{g:Nat->AV}(h:iA S bt N)(a:S b=some ⟨ty,es,n,g⟩)(c:ty≠107):bt≠b:=by
 obtain⟨_,_,_,_,d,_⟩:=h;rintro rfl;rw[d]at a;cases a;exact c rfl
def iA.fresh(h:iA S bt N)(a:S c=ab):bt≠c:=by
 obtain⟨_,_,_,_,b,_⟩:=h;rintro rfl;rw[b]at a;cases a
def vB(S:St)(bt N:Nat)(h:iA S bt N)(m:N<=1000):cE 77 [.ptr 1 bt 0] S (fun r S'=>∃z:Int,(-128<=z/\z<=127)/\r=.int .i64 z/\iA S' bt (N+1)/\∀d,d≠bt->S' d=S d):=by
 refine jr func77 ntmps77 results77 ?_;obtain⟨L,nums,k,g,e,c,f,n,a⟩:=h;simp -dsimp only[go_sem];refine bF 10 kr ?_
 by_cases i:L<=k
 .simp only[*,go_sem,aa,kg];exact⟨0,om,om,rfl,⟨L,nums,k,g,e,c,f,om,a⟩,fun _ _=>trivial⟩
 .simp -dsimp only[*,go_sem,aa,kg,aT (om:k<1000000)]
  refine bF 13 kr ?_
  have o:IntKind.i64.wrap (((k+1:Nat):Int)-1)=(k:Nat):=dM om om;have b:k<L:=om
  have p:=a k b;have j:IntKind.i64.wrap (nums k)=nums k:=i64_in om om;simp only[*,go_sem,aa,bR];refine⟨nums k,om,om,rfl,⟨L,nums,k+1,_,ci,?_,?_,om,a⟩,fun d l=>aN l⟩
  .simp[bR,c]
  .simp[bR]
def su(S:St)(bt N m:Nat)(h:iA S bt N)(c:N<=1000)(j:1<=m)(e:m<=100):cE 150 [.ptr 1 bt 0,.int .i64 m] S (fun r S'=>∃z:Nat,z<m/\r=.int .i64 z/\iA S' bt (N+1)/\∀d,d≠bt->S' d=S d):=by
 refine jr func150 ntmps150 results150 ?_;simp -dsimp only[go_sem,aa];refine(vB S bt N h c).mono ?_;rintro r S' ⟨z,k,rfl,f,g⟩;have a:∃y:Nat,y<256/\IntKind.u8.wrap z=y:=by
  rw[IntKind.wrap_u8];exact⟨(z%256).toNat,om,om⟩
 obtain⟨y,l,a⟩:=a;have i:IntKind.i64.wrap (y:Int)=y:=i64_in om om;have b:¬((m:Int)=0):=om
 simp only[go_sem,a,i,b];refine⟨y%m,dq _ om,?_,f,g⟩;rw[qb]
def Nd(S0 S:St)(bt:Nat):Prop:=∀d X,S0 d=some X->d≠bt->S d=some X
def Ca(n most:Nat)(A:aJ):Prop:=∀i,i<n->(1<=A i i/\A i i<=most)/\∀j,j<n->j≠i->A i j=0
def DgI(S0 S:St)(b bt N n most i:Nat):Prop:=∃(g:Nat->Nat) (A:aJ),bJ S b 29 1 n (fun a=>if a<i then .sl 1 (g a) 0 n else .nil)/\(∀a,a<i->tT S (g a) n (A a)/\S0 (g a)=ab)/\(∀a c,a<i->c<i->g a=g c->a=c) /\
 iA S bt (N+i)/\Nd S0 S bt/\S0 b=ab/\∀a,a<i->(1<=A a a/\A a a<=most)/\∀j,j<n->j≠a->A a j=0
def Nd.upd(h:Nd S0 S bt)(b:S0 c=ab)(X:eE):Nd S0 (S.upd c X) bt:=fun d Y a e=>by
 have:d≠c:=by rintro rfl;rw[b]at a;cases a
 rw[aN this];exact h d Y a e
def Nd.none(h:Nd S0 S bt)(a:S c=ab)(b:bt≠c):S0 c=ab:=by
 cases e:S0 c with
 | none=>rfl
 | some X=>rw[h c X e (aj b)]at a;cases a
def Nd.step(h:Nd S0 S bt)(b:∀d,d≠bt->S' d=S d):Nd S0 S' bt:=fun d X c a=>by rw[b d a];exact h d X c a
def l6(S0:St)(bt N n most:Nat)(P:iA S0 bt N)(hN:N+n<=900)(U:1<=most)(y:most<=100):cE 151 [.ptr 1 bt 0,.int .i64 n,.int .i64 most] S0 (fun r S'=>∃b g A,r=.sl 1 b 0 n/\eh S' b g n n A/\iA S' bt (N+n)/\Nd S0 S' bt/\Ca n most A/\S0 b=ab/\∀a,a<n->S0 (g a)=ab):=by
 refine jr func151 ntmps151 results151 ?_;simp -dsimp only[go_sem]
 repeat refine an ?_
 refine aG.intro fun o B=>?_;simp only[go_sem];have C:=P.fresh B;refine aH (fun O S=>∃i:Nat,i<=n/\O 0=.ptr 1 bt 0/\O 1=.int .i64 n/\O 2=.int .i64 most/\O 7=.sl 1 o 0 n/\O 12=.int .i64 n/\O 13=.int .i64 i/\DgI S0 S o bt N n most i) (fun O S=>n-ca (O 13)) ?_ ?_
 .simp only[go_sem];exact⟨0,om,rfl,fun _=>0,fun _ _=>0,bJ.here fun _ _=>by simp,fun a k=>om,fun a c k=>om,P.upd C _,(fun d X D _=>by rw[aN (fun e=>by rw[e,B]at D;cases D)];exact D),B,fun a k=>om⟩
 .rintro O S ⟨i,hi,e0,V,e2,W,E,F,g,A,Q,v,Y,m,s,t,R⟩;by_cases G:i<n
  .simp -dsimp only[*,go_sem,aa]
   repeat refine an ?_
   refine aG.intro fun f l=>?_;obtain⟨T,H,Z⟩:=Q;have p:o≠f:=fun e=>by rw[<-e,H]at l;cases l
   have q:bt≠o:=m.ne H om;have h:bt≠f:=m.fresh l;have u:S0 f=ab:=s.none l h;simp -dsimp only[*,go_sem];refine fu 7 [[0,1,2,3,4]] kr ?_
   simp -dsimp only[*,go_sem,aa,bR];have I:iA ((S.upd f ⟨2,1,n,fun _=>.int .i64 0⟩).upd o ⟨29,1,n,bR T i (.sl 1 f 0 n)⟩) bt (N+i):=(m.upd h _).upd q _;refine(su _ bt (N+i) most I om U y).mono ?_;rintro r S2 ⟨z,hz,rfl,J,w⟩;have k7:S2 o=some ⟨29,1,n,bR T i (.sl 1 f 0 n)⟩:=by rw[w o (aj q)];exact ci
   have k18:S2 f=some ⟨2,1,n,fun _=>.int .i64 0⟩:=by rw[w f (aj h),aN (aj p)];exact ci
   have hw:IntKind.i64.wrap (1+(z:Int))=((z+1:Nat):Int):=dM om om;simp only[*,go_sem,aa,bR,aT (om:i<1000000),ca]
   refine⟨⟨i+1,om,rfl,fun a=>if a=i then f else g a,fun a c=>if a=i then(if c=i then((z+1:Nat):Int)else 0)else A a c,(bJ.of k7).upd p _ |>.congr fun a k=>?_,fun a k=>?_,fun a c k hc e=>?_,J.upd h _,(((s.upd u _).upd t _).step w).upd u _,t,fun a k=>?_⟩,om⟩
   .have:=Z a k;simp only[bR];grind
   .by_cases e:a=i
    .subst e;simp only[aO];refine⟨bJ.here fun c hc=>?_,u⟩;simp only[bR];split<;>rfl
    .simp only[e,aP];obtain⟨x,r2⟩:=v a om;have K:g a≠f:=bJ.fresh x l;have q2:g a≠o:=bJ.ne x (bJ.of H) om;have q3:g a≠bt:=by obtain⟨gg,L,_⟩:=x;exact aj (m.ne L om)
     refine⟨(x.via fun X hX=>?_).upd K _,r2⟩;rw[w _ q3,aN q2,aN K];exact hX
   .have K:∀a,a<i->g a≠f:=fun a k=>bJ.fresh (v a k).1 l
    grind
   .by_cases e:a=i
    .subst e;refine⟨by simp only[aO];omega,fun j hj M=>by simp[M]⟩
    .simp only[e,aP];exact R a om
  .obtain rfl:i=n:=om
   simp only[go_sem,aa,V,W,E,F,G];exact⟨o,rfl,g,A,⟨Q.congr fun a k=>by simp[k],fun a k=>(v a k).1,Y⟩,m,s,R,t,fun a k=>(v a k).2⟩

structure R2(n most:Nat)(A:aJ):Prop where
 sym:∀a c,a<n->c<n->A a c=A c a
 diag:∀a,a<n->1<=A a a/\A a a<=most
 small:∀a c,a<n->c<n->-9<=A a c/\A a c<=9
def Sa(S0 S:St)(b bt N n:Nat)(Q:aJ->Prop):Prop:=∃(g:Nat->Nat) (A:aJ),eh S b g n n A/\iA S bt N/\Nd S0 S bt/\S0 b=ab/\(∀a,a<n->S0 (g a)=ab)/\Q A
def tmod3(z:Int):-2<=z.tmod 3/\z.tmod 3<=2:=by
 have c:=sL (a:=z) (b:=3) om;omega
def CX(S0:St)(bt N n:Nat)(hT:iA S0 bt N)(Z:n<=8)(hN:N<=500):cE 148 [.ptr 1 bt 0,.int .i64 n] S0 (fun r S'=>∃b,r=.sl 1 b 0 n/\Sa S0 S' b bt (N+n+n*n) n (R2 n 6)):=by
 refine jr func148 ntmps148 results148 ?_;have hnn:n*n<=64:=bs Z Z;simp -dsimp only[go_sem,aa];refine(l6 S0 bt N n 6 hT om om om).mono ?_;rintro r S1 ⟨b,g,A,rfl,o,l,p,x,q,m⟩;simp only[go_sem];refine aH (fun O S=>∃i:Nat,i<=n/\O 0=.ptr 1 bt 0/\O 5=.sl 1 b 0 n/\O 12=.int .i64 n/\O 13=.int .i64 i/\Sa S0 S b bt (N+n+i*n) n (R2 n 6)) (fun O S=>n-ca (O 13)) ?_ ?_
 .simp only[go_sem];refine⟨0,om,rfl,g,A,o,l.mono om,p,q,m,fun a c h u=>?_,fun a h=>(x a h).1,fun a c h u=>?_⟩
  .by_cases e:a=c
   .rw[e]
   .rw[(x a h).2 c u (aj e),(x c u).2 a h e]
  .by_cases e:c=a
   .have:=(x a h).1;rw[e];omega
   .rw[(x a h).2 c u e];omega
 .clear o l p x q m;rintro O S ⟨i,hi,e0,H,y,B,I⟩;by_cases d:i<n
  .have hin:i*n+n<=n*n:=by rw[<-cQ];exact aC _ d
   simp only[*,go_sem];refine aH (fun O S=>∃k:Nat,k<=i/\O 0=.ptr 1 bt 0/\O 5=.sl 1 b 0 n/\O 6=.int .i64 i/\O 7=.int .i64 k/\O 12=.int .i64 n/\O 13=.int .i64 i/\Sa S0 S b bt (N+n+i*n+k) n (R2 n 6)) (fun O S=>i-ca (O 7)) ?_ ?_
   .simp only[*,go_sem];exact⟨0,om,rfl,I⟩
   .clear I;rintro O S ⟨k,hk,e0,H,e6,e7,y,B,g,A,o,l,p,q,m,G⟩;by_cases hki:k<i
    .have f:k<n:=om
     obtain⟨C,J,D⟩:=o.outer;obtain⟨gi,ui,vi⟩:=o.row i d;have w1:C i=.sl 1 (g i) 0 n:=D i d;have w2:C k=.sl 1 (g k) 0 n:=D k f;simp -dsimp only[*,go_sem];refine fu 6 [[0,1,2,3,4]] kr ?_
     simp -dsimp only[*,go_sem,aa];refine(vB S bt _ l om).mono ?_;rintro r S2 ⟨z,hz,rfl,K,v⟩;have L:bt≠b:=l.ne J om;have w:∀a,a<n->g a≠bt:=fun a h=>by obtain⟨gg,M,_⟩:=o.row a h;exact aj (l.ne M om)
     have s:eh S2 b g n n A:=⟨o.outer.via fun X P=>by rw[v b (aj L)];exact P,fun a h=>(o.row a h).via fun X P=>by rw[v _ (w a h)];exact P,o.inj⟩
     obtain⟨C,J,D⟩:=s.outer;obtain⟨gi,ui,vi⟩:=s.row i d;have w1:C i=.sl 1 (g i) 0 n:=D i d;have w2:C k=.sl 1 (g k) 0 n:=D k f;have hz3:=tmod3 z;simp -dsimp only[go_sem,aa,H,e6,e7,d,f,J,w1,ui,show ¬((3:Int)=0) by decide]
     have t:=s.set (j:=k) (z:=z.tmod 3) d ui;have hMi:=s.outer_ne d;obtain⟨E,Q,F⟩:=t.outer;obtain⟨gi',ui',vi'⟩:=t.row i d;obtain⟨gk',uk',vk'⟩:=t.row k f;have R:E i=.sl 1 (g i) 0 n:=F i d;have T:E k=.sl 1 (g k) 0 n:=F k f;have U:gi' k=.int .i64 (z.tmod 3):=by rw[vi' k f];simp[eV]
     have hki':g i≠g k:=fun e=>by have:=o.inj i k d f e;omega
     have V:=K.upd (aj (w i d)) ⟨2,1,n,bR gi k (.int .i64 (z.tmod 3))⟩;have W:=(p.step v).upd (m i d) ⟨2,1,n,bR gi k (.int .i64 (z.tmod 3))⟩;generalize S2.upd (g i) ⟨2,1,n,bR gi k (.int .i64 (z.tmod 3))⟩=S3 at *;simp -dsimp only[*,go_sem];refine bF 13 kr ?_
     simp only[go_sem,aa,e0,H,e6,e7,y,B,d,f,Q,R,T,ui',U,uk',aT (om:k<1000000),ca]
     have Y:=t.set (j:=i) (z:=z.tmod 3) f uk';refine⟨⟨k+1,om,rfl,g,_,Y,V.upd (aj (w k f)) _,W.upd (m k f) _,q,m,fun a c h u=>?_,fun a h=>?_,fun a c h u=>?_⟩,om⟩
     .have:=G.sym a c h u;simp only[eV];grind
     .have:=G.diag a h;simp only[eV];rw[af om,af om];exact this
     .have:=G.small a c h u;simp only[eV];split
      .omega
      .split
       .omega
       .exact this
    .simp only[*,go_sem,aT (om:i<1000000),ca]
     exact⟨⟨i+1,om,rfl,g,A,o,l.mono (by rw[cQ];omega),p,q,m,G⟩,om⟩
  .obtain rfl:i=n:=om
   simp only[*,go_sem];exact⟨b,rfl,I⟩

structure Do(S:St)(b:Nat)(g:Nat->Nat)(n i:Nat)(A:aJ):Prop where
 outer:bJ S b 29 1 n (fun a=>if a<i then .sl 1 (g a) 0 n else .nil)
 row:∀a,a<i->tT S (g a) n (A a)
 inj:∀a c,a<i->c<i->g a=g c->a=c
def Do.outer_ne(h:Do S b g n i A){a:Nat}(c:a<i):b≠g a:=bJ.ne h.outer (h.row a c) om
def Do.set(h:Do S b g n i A){a j:Nat}{z:Int}{g':Nat->AV}(k:a<i)(m:S (g a)=some ⟨2,1,n,g'⟩):Do (S.upd (g a) ⟨2,1,n,bR g' j (.int .i64 z)⟩) b g n i (eV A a j z):=by
 refine⟨h.outer.upd (h.outer_ne k) _,fun c d=>?_,h.inj⟩;by_cases e:c=a
 .subst e;obtain⟨r,l,o⟩:=h.row c d;rw[m]at l;cases l;refine bJ.here fun t p=>?_;have:=o t p;simp only[bR,eV]
  grind
 .have f:g c≠g a:=fun q=>e (h.inj c a d k q);refine((h.row c d).upd f _).congr fun t _=>?_;simp[eV,e]
def Do.new(h:Do S b g n i A){c:Nat}(v:i<n)(k:S c=ab){m:Nat->AV}(o:S b=some ⟨29,1,n,m⟩)(s:∀j,j<n->A i j=0) :
  Do ((S.upd c ⟨2,1,n,fun _=>.int .i64 0⟩).upd b ⟨29,1,n,bR m i (.sl 1 c 0 n)⟩) b (fun a=>if a=i then c else g a) n (i+1) A:=by
 have l:b≠c:=fun e=>by rw[<-e,o]at k;cases k
 obtain⟨w,p,t⟩:=h.outer;rw[o]at p;cases p;refine⟨bJ.here fun a f=>?_,fun a f=>?_,fun a d f x e=>?_⟩
 .have:=t a f;simp only[bR];grind
 .by_cases e:a=i
  .subst e;simp only[aO];exact(bJ.here fun j u=>by rw[s j u]).upd (aj l) _
  .simp only[e,aP];have r:=h.row a om;exact(r.upd (bJ.fresh r k) _).upd (aj (h.outer_ne om)) _
 .have q:∀a,a<i->g a≠c:=fun a f=>bJ.fresh (h.row a f) k;have:=h.inj
  grind
structure Sd(n i:Nat)(A:aJ):Prop where
 sym:∀a c,A a c=A c a
 out:∀a c,i<=a∨i<=c->A a c=0
 diag:∀a,a<i->A a a=2
 small:∀a c,-9<=A a c/\A a c<=9
def ChI(S0 S:St)(b n i:Nat):Prop:=∃(g:Nat->Nat) (A:aJ),Do S b g n i A/\Sd n i A/\eQ S0 S/\S0 b=ab/\∀a,a<i->S0 (g a)=ab
def Sd.next0(h:Sd n i A):Sd n (i+1) (eV A i i 2):=by
 refine⟨fun a c=>?_,fun a c b=>?_,fun a d=>?_,fun a c=>?_⟩
 .have:=h.sym a c;simp only[eV];grind
 .simp only[eV];rw[af om];exact h.out a c om
 .simp only[eV];by_cases e:a=i
  .simp[e]
  .rw[af om];exact h.diag a om
 .have:=h.small a c;simp only[eV];split
  .omega
  .exact this
def Sd.next{m:Nat}(h:Sd n i A)(f:m<i):Sd n (i+1) (eV (eV (eV A i i 2) i m (-1)) m i (-1)):=by
 have b:=h.next0;refine⟨fun a c=>?_,fun a c d=>?_,fun a e=>?_,fun a c=>?_⟩
 .have:=b.sym a c;simp only[eV]at this ⊢;grind
 .have:=b.out a c d;simp only[eV]at this ⊢;grind
 .have:=b.diag a e;simp only[eV]at this ⊢;grind
 .have:=b.small a c;simp only[eV]at this ⊢;grind
def zD(S0:St)(n:Nat)(fork:Bool)(hn:n<=8):cE 149 [.int .i64 n,.bool fork] S0 (fun r S'=>∃b,r=.sl 1 b 0 n/\ChI S0 S' b n n):=by
 refine jr func149 ntmps149 results149 ?_;simp -dsimp only[go_sem]
 repeat refine an ?_
 refine aG.intro fun N f5=>?_;simp only[go_sem];refine aH (fun O S=>∃i:Nat,i<=n/\O 0=.int .i64 n/\O 1=.bool fork/\O 5=.sl 1 N 0 n/\O 11=.int .i64 n/\O 12=.int .i64 i/\ChI S0 S N n i) (fun O S=>n-ca (O 12)) ?_ ?_
 .simp only[go_sem];exact⟨0,om,rfl,fun _=>0,fun _ _=>0,⟨bJ.here fun _ _=>by simp,fun a X=>om,fun a c X=>om⟩,⟨fun _ _=>rfl,fun _ _ _=>rfl,fun a X=>om,fun _ _=>om⟩,(eQ.refl S0).upd f5 _,f5,fun a X=>om⟩
 .rintro O S ⟨i,hi,Y,T,Z,I,J,g,A,y,K,L,v,G⟩;by_cases p:i<n
  .obtain⟨U,M,v1⟩:=y.outer;simp -dsimp only[*,go_sem,aa]
   repeat refine an ?_
   refine aG.intro fun B o=>?_;have k:N≠B:=fun e=>by rw[<-e,M]at o;cases o
   have hM1:=y.new p o M (fun j _=>K.out i j om);have hE1:=(L.upd (L.none o) ⟨2,1,n,fun _=>.int .i64 0⟩).upd v ⟨29,1,n,bR U i (.sl 1 B 0 n)⟩;have hw1:IntKind.i64.wrap ((i:Int)-1)=(i:Int)-1:=i64_in om om;have hw2:IntKind.i64.wrap ((i:Int)-2)=(i:Int)-2:=i64_in om om;have C:IntKind.i64.wrap ((n:Int)-1)=(n:Int)-1:=i64_in om om;have D:∀a,a<i+1->S0 ((fun a=>if a=i then B else g a) a)=ab:=fun a X=>by
    by_cases e:a=i
    .simp only[e,aO];exact L.none o
    .simp only[e,aP];exact G a om
   have w:=hM1.set (a:=i) (j:=i) (z:=2) (g':=fun _=>.int .i64 0) om (by simp only[aO];rw[aN (aj k)];exact ci)
   simp only[aO]at w;have E:=hE1.upd (L.none o) ⟨2,1,n,bR (fun _=>.int .i64 0) i (.int .i64 2)⟩;by_cases hB:fork=true/\i+1=n/\3<n
   .obtain⟨rfl,V,h3⟩:=hB;obtain⟨m,hm⟩:∃m,i=m+2:=⟨i-2,om⟩
    have P:((i:Int)==(n:Int)-1)=true:=by simp;omega
    have q2:(3:Int)<(n:Int):=om
    have H:IntKind.i64.wrap ((i:Int)-2)=(m:Nat):=dM om om;simp -dsimp only[go_sem,p,nn k,M,bR,C,hw1,P,q2,H];have q:m<n:=om
    have l:=w.set (a:=i) (j:=m) (z:=-1) (g':=bR (fun _=>.int .i64 0) i (.int .i64 2)) om (by simp only[aO];exact ci)
    simp only[aO]at l;obtain⟨gm,um,vm⟩:=l.row m om;have d:m≠i:=om
    simp only[d,aP]at um vm;have s:=l.set (a:=m) (j:=i) (z:=-1) (g':=gm) om (by simp only[d,aP];exact um)
    simp only[d,aP]at s;have wm:U m=.sl 1 (g m) 0 n:=by rw[v1 m q];simp only[];rw[ai om]
    have f:g m≠B:=bJ.fresh (y.row m om) o;have t:g m≠N:=aj (y.outer_ne om);obtain⟨F,u,Q⟩:=y.row m om;obtain rfl:F=gm:=by
     rw[aN f,aN f,aN t,aN f,u]at um;cases um;rfl
    refine ip 11 kr ?_
    simp only[go_sem,aa,Y,T,Z,I,J,p,k,bR,q,wm,f,t,u,d,aT (om:i<1000000),ca]
    exact⟨⟨i+1,om,rfl,_,_,s,K.next om,(E.upd (L.none o) _).upd (G m om) _,v,D⟩,om⟩
   .cases R:fork with
    | false =>
     rw[R]at T;rcases aX i with x|x
     .have H:IntKind.i64.wrap ((i:Int)-1)=-1:=by rw[x];decide
      have W:¬((0:Int)<=-1):=by decide
      simp only[go_sem,p,nn k,M,bR,C,H,W,aT (om:i<1000000),ca]
      exact⟨⟨i+1,om,rfl,_,_,w,K.next0,E,v,D⟩,om⟩
     .obtain⟨m,hm⟩:∃m,i=m+1:=⟨i-1,om⟩
      have H:IntKind.i64.wrap ((i:Int)-1)=(m:Nat):=dM om om;simp -dsimp only[go_sem,p,nn k,M,bR,C,H];have q:m<n:=om
      have l:=w.set (a:=i) (j:=m) (z:=-1) (g':=bR (fun _=>.int .i64 0) i (.int .i64 2)) om (by simp only[aO];exact ci)
      simp only[aO]at l;obtain⟨gm,um,vm⟩:=l.row m om;have d:m≠i:=om
      simp only[d,aP]at um vm;have s:=l.set (a:=m) (j:=i) (z:=-1) (g':=gm) om (by simp only[d,aP];exact um)
      simp only[d,aP]at s;have wm:U m=.sl 1 (g m) 0 n:=by rw[v1 m q];simp only[];rw[ai om]
      have f:g m≠B:=bJ.fresh (y.row m om) o;have t:g m≠N:=aj (y.outer_ne om);obtain⟨F,u,Q⟩:=y.row m om;obtain rfl:F=gm:=by
       rw[aN f,aN f,aN t,aN f,u]at um;cases um;rfl
      refine ip 11 kr ?_
      simp only[go_sem,aa,Y,T,Z,I,J,p,k,bR,q,wm,f,t,u,d,aT (om:i<1000000),ca]
      exact⟨⟨i+1,om,rfl,_,_,s,K.next om,(E.upd (L.none o) _).upd (G m om) _,v,D⟩,om⟩
    | true =>
     rw[R]at T;by_cases V:i+1=n
     .have P:((i:Int)==(n:Int)-1)=true:=by simp;omega
      have h3:¬3<n:=fun h=>hB ⟨R,V,h⟩;have q2:¬(3:Int)<(n:Int):=om
      rcases aX i with x|x
      .have H:IntKind.i64.wrap ((i:Int)-1)=-1:=by rw[x];decide
       have W:¬((0:Int)<=-1):=by decide
       simp only[go_sem,p,nn k,M,bR,C,P,q2,H,W,aT (om:i<1000000),ca]
       exact⟨⟨i+1,om,rfl,_,_,w,K.next0,E,v,D⟩,om⟩
      .obtain⟨m,hm⟩:∃m,i=m+1:=⟨i-1,om⟩
       have H:IntKind.i64.wrap ((i:Int)-1)=(m:Nat):=dM om om;simp -dsimp only[go_sem,p,nn k,M,bR,C,P,q2,H];have q:m<n:=om
       have l:=w.set (a:=i) (j:=m) (z:=-1) (g':=bR (fun _=>.int .i64 0) i (.int .i64 2)) om (by simp only[aO];exact ci)
       simp only[aO]at l;obtain⟨gm,um,vm⟩:=l.row m om;have d:m≠i:=om
       simp only[d,aP]at um vm;have s:=l.set (a:=m) (j:=i) (z:=-1) (g':=gm) om (by simp only[d,aP];exact um)
       simp only[d,aP]at s;have wm:U m=.sl 1 (g m) 0 n:=by rw[v1 m q];simp only[];rw[ai om]
       have f:g m≠B:=bJ.fresh (y.row m om) o;have t:g m≠N:=aj (y.outer_ne om);obtain⟨F,u,Q⟩:=y.row m om;obtain rfl:F=gm:=by
        rw[aN f,aN f,aN t,aN f,u]at um;cases um;rfl
       refine ip 11 kr ?_
       simp only[go_sem,aa,Y,T,Z,I,J,p,k,bR,q,wm,f,t,u,d,aT (om:i<1000000),ca]
       exact⟨⟨i+1,om,rfl,_,_,s,K.next om,(E.upd (L.none o) _).upd (G m om) _,v,D⟩,om⟩
     .have P:((i:Int)==(n:Int)-1)=false:=by simp;omega
      rcases aX i with x|x
      .have H:IntKind.i64.wrap ((i:Int)-1)=-1:=by rw[x];decide
       have W:¬((0:Int)<=-1):=by decide
       simp only[go_sem,p,nn k,M,bR,C,P,H,W,aT (om:i<1000000),ca]
       exact⟨⟨i+1,om,rfl,_,_,w,K.next0,E,v,D⟩,om⟩
      .obtain⟨m,hm⟩:∃m,i=m+1:=⟨i-1,om⟩
       have H:IntKind.i64.wrap ((i:Int)-1)=(m:Nat):=dM om om;simp -dsimp only[go_sem,p,nn k,M,bR,C,P,H];have q:m<n:=om
       have l:=w.set (a:=i) (j:=m) (z:=-1) (g':=bR (fun _=>.int .i64 0) i (.int .i64 2)) om (by simp only[aO];exact ci)
       simp only[aO]at l;obtain⟨gm,um,vm⟩:=l.row m om;have d:m≠i:=om
       simp only[d,aP]at um vm;have s:=l.set (a:=m) (j:=i) (z:=-1) (g':=gm) om (by simp only[d,aP];exact um)
       simp only[d,aP]at s;have wm:U m=.sl 1 (g m) 0 n:=by rw[v1 m q];simp only[];rw[ai om]
       have f:g m≠B:=bJ.fresh (y.row m om) o;have t:g m≠N:=aj (y.outer_ne om);obtain⟨F,u,Q⟩:=y.row m om;obtain rfl:F=gm:=by
        rw[aN f,aN f,aN t,aN f,u]at um;cases um;rfl
       refine ip 11 kr ?_
       simp only[go_sem,aa,Y,T,Z,I,J,p,k,bR,q,wm,f,t,u,d,aT (om:i<1000000),ca]
       exact⟨⟨i+1,om,rfl,_,_,s,K.next om,(E.upd (L.none o) _).upd (G m om) _,v,D⟩,om⟩
  .obtain rfl:i=n:=om
   simp only[*,go_sem,aa];exact⟨N,rfl,g,A,y,K,L,v,G⟩

def nb9(h:-9<=z/\z<=9):nb z 4:=by unfold nb;omega
def P5(h:-9<=z/\z<=9):Dn z:=by unfold Dn;omega
def II(n:Nat)(A:aJ)(d:1<=n)(l:n<=8)(m:∀a c,a<n->c<n->A a c=A c a)(o:∀a c,a<n->c<n->-9<=A a c/\A a c<=9)(β:Bool)(hβ:β=true↔(∀k,k<=n->0<det k A)/\det n A<=10000):PF 152 [aD n n A] (.bool β):=by
 refine iQ func152 ntmps152 results152 ?_;have b:∀i j,i<n->j<n->nb (A i j) 4:=fun i j f g=>nb9 (o i j f g);have p:=nG (k:=n) (n:=n) om b (ae _);have q:nb 10000 (17*(4+10)):=dr (by decide:10000<2^14) (bZ om om)
 simp -dsimp only[go_sem,aa];refine(B2 n n A d om d om (fun i j f g=>P5 (o i j f g))).call ?_;simp -dsimp only[go_sem,aa];rcases io (∀k,k<=n->0<det k A)with e|e
 .refine(nR n A 4 d l b om m true (by simp;exact e)).call ?_
  simp -dsimp only[go_sem,aa,show((0:Int)==0)=true from rfl];refine(jY n A 4 d om b om).call ?_;simp -dsimp only[go_sem,aa,show((0:Int)==0)=true from rfl];refine(gG dc dc).call ?_
  simp -dsimp only[go_sem,aa,show((0:Int)==0)=true from rfl];refine(pg p q om).call ?_;simp only[go_sem,show((0:Int)==0)=true from rfl,C7];have:β=decide (det n A<=10000):=by
   cases β with
   | true=>have:=(hβ.1 rfl).2;simp[this]
   | false =>
    by_cases h:det n A<=10000
    .exact absurd (hβ.2 ⟨e,h⟩) sm
    .simp[h]
  rw[this];exact VR.mf rfl
 .refine(nR n A 4 d l b om m false (by simp only[bD,Tn];exact e)).call ?_
  simp only[go_sem,show((5:Int)==0)=false from rfl];have:β=false:=by
   cases β with
   | false=>rfl
   | true=>exact absurd (hβ.1 rfl).1 e
  rw[this];exact VR.mf rfl
structure QR(n:Nat)(A:aJ):Prop where
 one:1<=n
 five:n<=5
 sym:∀a c,a<n->c<n->A a c=A c a
 pos:∀k,k<=n->0<det k A
 small:det n A<=10000
 diag:∀i,i<n->A i i<=9
 ent:∀a c,a<n->c<n->-9<=A a c/\A a c<=9
def LK(h:∀i,i<n->0<f i/\f i<=2):nd n f<=2^n:=by
 induction n generalizing f with
 | zero=>simp[nd]
 | succ n ih =>
  simp only[nd];have a:=ih (f:=fun i=>f (i+1)) (fun i b=>h (i+1) om);have c:=uM (n:=n) (f:=fun i=>f (i+1)) (fun i b=>(h (i+1) om).1);have d:=cB (h 0 om).2 a (co c) om;rw[fY];omega
def Ca.det{most:Nat}(h:Ca n most A){k:Nat}(c:k<=n):det k A=nd k (fun r=>A r r):=by
 have a:=xL (n:=0) k A (by rw[aB];exact fun r d=>⟨fun j e b=>(h r om).2 j om om,by have:=(h r om).1.1;omega⟩)
 rw[aB]at a;rw[a,show Go.Proofs.YtdobfmlmenaajaaGreatDoor.det 0 _=1 from rfl,rh]
def Ca.good(h:Ca n 2 A)(l:1<=n)(j:n<=5):QR n A:=by
 have m:∀k,k<=n->0<Go.Proofs.YtdobfmlmenaajaaGreatDoor.det k A:=fun k o=>by
  rw[h.det o];exact uM fun i d=>by have:=(h i om).1.1;omega
 refine⟨l,j,fun a c b g=>?_,m,?_,fun i d=>by have:=(h i d).1.2;omega,fun a c b g=>?_⟩
 .by_cases e:a=c
  .rw[e]
  .rw[(h a b).2 c g (aj e),(h c g).2 a b e]
 .rw[h.det (ae _)];have p:=LK (n:=n) (f:=fun r=>A r r) (fun i d=>by have:=(h i d).1;constructor<;>omega)
  have q:=iD j;have s:(2:Int)^5=32:=by decide
  omega
 .by_cases e:c=a
  .have:=(h a b).1;rw[e];omega
  .rw[(h a b).2 c g e];omega
def Oy(d k L:Nat)(nums:Nat->Int)(Lb:Nat)(base:Nat->AV):AV:=.agg [.int .u8 d,.int .u8 k,.lst 1 L (fun i=>.int .i8 (nums i)),.lst 1 Lb base]
def EIM(f:Nat)(args:List AV)(P:Nat->aJ->Prop):Prop:=∀S args',fD S args' args->cE f args' S (fun r S'=>∃b g n A,P n A/\r=.sl 1 b 0 n/\iE S S' b g n n A)
def EIM.of{f:Nat}{P:Nat->aJ->Prop}(h:cE f args St.none (fun r S'=>∃b g n A,P n A/\r=.sl 1 b 0 n/\eh S' b g n n A)):EIM f args P:=fun S args' d=>by
 have i:cE f args St.none (fun r S'=>∃b g n A,P n A/\r=.sl 1 b 0 n/\eh S' b g n n A/\KI S'):=h.less fun r S' ⟨b,g,n,A,c,e,a⟩=>⟨gL S' b g n,jm S' b g n,b,g,n,A,c,e,a.only.1,a.only.2⟩;refine(i.frame d ?_).mono ?_
 .rintro r S1 ⟨b,g,n,A,_,rfl,_,j⟩;exact⟨rfl,j⟩
 .rintro r S' ⟨S1,⟨b,g,n,A,c,rfl,a,_⟩,k,rfl⟩;exact⟨b,g,n,A,c,rfl,a.join k⟩
def MQ{a b c d e r:Code}{Q:AX->Tm->St->Prop}(P:Tm->St->Prop)(h:∀r' Q',Q'=Q->(∀O S,P O S->Aw r' Q' O S)->Aw (.seq a (.seq b (.seq c (.seq d (.seq e r'))))) Q' O S)(f:∀O S,P O S->Aw r Q O S) :
  Aw (.seq a (.seq b (.seq c (.seq d (.seq e r))))) Q O S:=h r Q rfl f
def DrawI(n:Nat)(O:Tm)(S:St):Prop:=∃(b5 b ps:Nat) (g:Nat->Nat) (A:aJ),O 5=.ptr 1 b5 0/\O 6=.int .i64 n/\O 7=.sl 1 b 0 n/\eh S b g n n A/\iA S b5 ps/\ps<=100/\(∀a c,a<n->c<n->A a c=A c a)/\∀a c,a<n->c<n->-9<=A a c/\A a c<=9
def wv{z:Nat}{b5 ps:Nat}(e:p<n)(k:z<=3)(f:eh S b g n n A)(h:iA S b5 ps)(d:g p≠b5)(u:S (g p)=some ⟨2,1,n,g2⟩)(i:∀a c,A a c=A c a)(j:∀a c,-9<=A a c/\A a c<=9) :
  eh (S.upd (g p) ⟨2,1,n,bR g2 p (.int .i64 ((2+z:Nat):Int))⟩) b g n n (eV A p p ((2+z:Nat):Int))/\iA (S.upd (g p) ⟨2,1,n,bR g2 p (.int .i64 ((2+z:Nat):Int))⟩) b5 ps/\(∀a c,a<n->c<n->eV A p p ((2+z:Nat):Int) a c=eV A p p ((2+z:Nat):Int) c a)/\∀a c,a<n->c<n->-9<=eV A p p ((2+z:Nat):Int) a c/\eV A p p ((2+z:Nat):Int) a c<=9:=by
 refine⟨f.set e u,h.upd (aj d) _,fun a c _ _=>?_,fun a c _ _=>?_⟩
 .have:=i a c;simp only[eV];grind
 .have:=j a c;simp only[eV];split
  .omega
  .exact this
def Nb(M d k L:Nat)(nums:Nat->Int)(Lb:Nat)(base:Nat->AV)(h:1<=M)(hM5:M<=5)(hd:d<256)(hk:k<256)(hnums:∀i,i<L->-128<=nums i/\nums i<=127):EIM 89 [Oy d k L nums Lb base,.int .i64 M] (fun n A=>QR n A/\n<=M):=by
 refine EIM.of ?_;refine jr func89 ntmps89 results89 ?_;obtain⟨n,hn,hnd⟩:∃n,n=1+d%M/\1+d%M=n:=⟨_,rfl,rfl⟩;have hml:=dq d (om:0<M)
 have V:n<=M:=om
 have W:n<=5:=om
 have hnn:n*n<=25:=bs W W;have R:IntKind.i64.wrap (d:Int)=(d:Nat):=i64_in om om;have T:eN (d:Int) (M:Int)=((d%M:Nat):Int):=by rw[qb]
 have U:IntKind.i64.wrap (1+((d%M:Nat):Int))=(n:Nat):=dM om om;have hMz:¬((M:Int)=0):=om
 have w4:eN (k:Int) 8=((k%8:Nat):Int):=by rw[qb]<;>rfl
 refine MQ (DrawI n) (fun r' Q' _ key=>?_) ?_
 .simp -dsimp only[go_sem,aa,Oy,bH,bW,cC,cW];refine aG.intro fun b2 f2=>?_;simp -dsimp only[go_sem,bI,bB];refine aG.intro fun l f5=>?_;have n5_2:=(ag f5).1;have y:iA ((St.none.upd b2 ⟨24,1,4,fun j=>[AV.int .u8 d,.int .u8 k,.lst 1 L (fun i=>.int .i8 (nums i)),.lst 1 Lb base].getD j .any⟩).upd l ⟨107,1,2,fun j=>[AV.lst 1 L (fun i=>.int .i8 (nums i)),.int .i64 0].getD j .any⟩) l 0:=⟨L,nums,0,_,ci,rfl,rfl,ae _,hnums⟩;obtain⟨q,hq,hq8⟩:∃q:Int,q=((k%8:Nat):Int)/\((q=0∨q=1∨q=2∨q=3)∨q=4∨q=5∨q=6∨q=7):=⟨_,rfl,om⟩
  rw[<-hq]at w4;simp -dsimp only[go_sem,aj n5_2,bI,bB,R,T,U,w4,hMz,show ¬((8:Int)=0) by decide]
  clear hq w4;have Y:∀{A:aJ} {m:Nat},m<=9->Ca n m A->(∀a c,a<n->c<n->A a c=A c a)/\∀a c,a<n->c<n->-9<=A a c/\A a c<=9:=by
   intro A m hm G;refine⟨fun a c o hc=>?_,fun a c o hc=>?_⟩
   .by_cases e:a=c
    .rw[e]
    .rw[(G a o).2 c hc (aj e),(G c hc).2 a o e]
   .by_cases e:c=a
    .have:=(G a o).1;rw[e];omega
    .rw[(G a o).2 c hc e];omega
  rcases hq8 with (rfl|rfl|rfl|rfl)|rfl|rfl|rfl|rfl
  case inl.inl|inl.inr.inl|inl.inr.inr.inl|inl.inr.inr.inr =>
   simp -dsimp only[go_sem,B7];refine(CX _ l 0 n y om om).mono ?_;rintro r S1 ⟨b,rfl,g,A,D,u,Z,E,F,hP⟩;simp only[go_sem,R,T,U];refine key _ _ ?_;exact⟨l,b,_,g,A,by simp only[go_sem],by simp only[go_sem],by simp only[go_sem],D,u,om,hP.sym,hP.small⟩
  case inr.inl =>
   simp -dsimp only[go_sem,B7];refine(zD _ n false om).mono ?_;rintro r S1 ⟨b,rfl,g,A,v,H,hE,E,F⟩;have h:eh S1 b g n n A:=⟨v.outer.congr fun a o=>by simp[o],v.row,v.inj⟩
   have w:iA S1 l 0:=y.step ((hE _ _ ci).trans ci.symm);have t:(0:Nat)<n:=om
   obtain⟨g1,I,v1⟩:=h.outer;obtain⟨g2,u2,v2⟩:=h.row 0 t;have x1:g1 0=.sl 1 (g 0) 0 n:=v1 0 t;have x2:g2 0=.int .i64 2:=by rw[v2 0 t];simp only[H.diag 0 t]
   simp -dsimp only[go_sem,R,T,U];refine fu 6 [[0,1,2,3,4],[0,1],[]] kr ?_
   simp -dsimp only[go_sem,aa,I,u2,x1,x2,show((0:Int)<(n:Int)) by omega,jP]
   repeat refine an ?_
   refine(su _ l 0 3 w om om om).mono ?_;rintro r S2 ⟨z,hz,rfl,J,s⟩;have B:l≠b:=w.ne I om;have x:∀a,a<n->g a≠l:=fun a o=>by obtain⟨gg,K,_⟩:=h.row a o;exact aj (w.ne K om)
   have N:eh S2 b g n n A:=⟨h.outer.via fun X P=>by rw[s b (aj B)];exact P,fun a o=>(h.row a o).via fun X P=>by rw[s _ (x a o)];exact P,h.inj⟩
   have Q:S2 b=some ⟨29,1,n,g1⟩:=by rw[s b (aj B)];exact I
   have C:S2 (g 0)=some ⟨2,1,n,g2⟩:=by rw[s _ (x 0 t)];exact u2
   have wz:IntKind.i64.wrap (2+(z:Int))=((2+z:Nat):Int):=dM om om;simp only[go_sem,aa,Q,C,x1,x2,wz,show((0:Int)<(n:Int)) by omega,jP]
   repeat refine an ?_
   obtain⟨k1,k2,k3⟩:=wv (z:=z) t om N J (x 0 t) C H.sym H.small;refine key _ _ ?_;exact⟨l,b,_,g,_,by simp only[go_sem],by simp only[go_sem],by simp only[go_sem],k1,k2,om,k3⟩
  case inr.inr.inl =>
   simp -dsimp only[go_sem,B7];refine(zD _ n true om).mono ?_;rintro r S1 ⟨b,rfl,g,A,v,H,hE,E,F⟩;have h:eh S1 b g n n A:=⟨v.outer.congr fun a o=>by simp[o],v.row,v.inj⟩
   have w:iA S1 l 0:=y.step ((hE _ _ ci).trans ci.symm);obtain⟨p,hpn⟩:∃p,n=p+1:=⟨n-1,om⟩
   have t:p<n:=om
   have wp:IntKind.i64.wrap ((n:Int)-1)=(p:Nat):=dM om om;obtain⟨g1,I,v1⟩:=h.outer;obtain⟨g2,u2,v2⟩:=h.row p t;have x1:g1 p=.sl 1 (g p) 0 n:=v1 p t;have x2:g2 p=.int .i64 2:=by rw[v2 p t];simp only[H.diag p t]
   simp -dsimp only[go_sem,R,T,U];refine fu 10 [[0,1,2,3,4,5,6,7,8],[0,1,2,3,5],[]] kr ?_
   simp -dsimp only[go_sem,aa,I,u2,x1,x2,wp,t];refine(su _ l 0 2 w om om om).mono ?_;rintro r S2 ⟨z,hz,rfl,J,s⟩;have B:l≠b:=w.ne I om;have x:∀a,a<n->g a≠l:=fun a o=>by obtain⟨gg,K,_⟩:=h.row a o;exact aj (w.ne K om)
   have N:eh S2 b g n n A:=⟨h.outer.via fun X P=>by rw[s b (aj B)];exact P,fun a o=>(h.row a o).via fun X P=>by rw[s _ (x a o)];exact P,h.inj⟩
   have Q:S2 b=some ⟨29,1,n,g1⟩:=by rw[s b (aj B)];exact I
   have C:S2 (g p)=some ⟨2,1,n,g2⟩:=by rw[s _ (x p t)];exact u2
   have wz:IntKind.i64.wrap (2+(z:Int))=((2+z:Nat):Int):=dM om om;simp only[go_sem,aa,Q,C,x1,x2,wz,wp,t];obtain⟨k1,k2,k3⟩:=wv (z:=z) t om N J (x p t) C H.sym H.small;refine key _ _ ?_;exact⟨l,b,_,g,_,by simp only[go_sem],by simp only[go_sem],by simp only[go_sem],k1,k2,om,k3⟩
  case inr.inr.inr.inl =>
   simp -dsimp only[go_sem,B7];refine(l6 _ l 0 n 9 y om om om).mono ?_;rintro r S1 ⟨b,g,A,rfl,D,u,Z,G,E,F⟩;have f:=Y om G;simp only[go_sem,R,T,U];refine key _ _ ?_;exact⟨l,b,_,g,A,by simp only[go_sem],by simp only[go_sem],by simp only[go_sem],D,u,om,f⟩
  case inr.inr.inr.inr =>
   simp -dsimp only[go_sem,B7];refine(l6 _ l 0 n 1 y om om om).mono ?_;rintro r S1 ⟨b,g,A,rfl,D,u,Z,G,E,F⟩;have f:=Y om G;simp only[go_sem,R,T,U];refine key _ _ ?_;exact⟨l,b,_,g,A,by simp only[go_sem],by simp only[go_sem],by simp only[go_sem],D,u,om,f⟩
 rintro O S ⟨l,b,ps,g,A,e5,e6,e7,D,u,hps,f⟩;simp -dsimp only[go_sem,aa,e7];rcases io ((∀k,k<=n->0<det k A)/\det n A<=10000)with hg|hg
 .refine(II n A om om f.1 f.2 true (by simp only[true_iff];exact hg)).spec (fD.cons D.vr.va fD.nil) ?_
  simp only[go_sem,aa,e5,e6,e7];exact⟨b,g,n,A,⟨om,om,f.1,hg.1,hg.2,fun i hi=>(f.2 i i hi hi).2,f.2⟩,V,rfl,D⟩
 .refine(II n A om om f.1 f.2 false (by simp only[bD,Tn];exact hg)).spec (fD.cons D.vr.va fD.nil) ?_
  simp -dsimp only[go_sem,aa,e5,e6,e7];refine(l6 _ l _ n 2 u om om om).mono ?_;rintro r S9 ⟨b',g',A',rfl,hM',hTp',hFr',hD',_,_⟩;simp only[go_sem];exact⟨b',g',n,A',hD'.good om om,V,rfl,hM'⟩

def JT{a:Int}(c:0<m):a%m=if a.tmod m<0 then a.tmod m+m else a.tmod m:=by
 have e:=wJ a m;have h:=sL (a:=a) (b:=m) om;split
 .refine(oQ (a:=a) (b:=m) (q:=a.tdiv m-1) (r:=a.tmod m+m) ?_ om om).2;rw[rf,rh];omega
 .exact(oQ (a:=a) (b:=m) (q:=a.tdiv m) (r:=a.tmod m) om om om).2
def Dp{a:Int}(d:0<m)(e:m<=1000000000000):PF 35 [.int .i64 a,.int .i64 m] (.int .i64 (a%m)):=by
 refine iQ func35 ntmps35 results35 ?_;rw[JT d];have h:=sL (a:=a) (b:=m) om;by_cases c:a.tmod m<0
 .have f:IntKind.i64.wrap (a.tmod m+m)=a.tmod m+m:=i64_in om om;simp -dsimp only[go_sem,(om:¬(m=0)),c,f]
  exact VR.mf rfl
 .simp -dsimp only[go_sem,(om:¬(m=0)),c]
  exact VR.mf rfl
def pa{m:Nat}:eN (a:Int) (m:Int)=((a%m:Nat):Int):=by rw[qb]
def Is_pf(p:Nat)(t:2<=p)(o:p<=9973)(β:Bool)(hβ:β=true↔∀d,2<=d->d*d<=p->¬p%d=0):PF 240 [.int .i64 p] (.bool β):=by
 refine iQ func240 ntmps240 results240 ?_;simp -dsimp only[go_sem,(om:¬((p:Int)<2)),(om:¬((2147483647:Int)<p))]
 refine aH (fun O S=>∃d:Nat,2<=d/\d<=100/\O 0=.int .i64 p/\O 3=.int .i64 d/\∀e,2<=e->e<d->¬p%e=0) (fun O S=>101-ca (O 3)) ?_ ?_
 .simp -dsimp only[go_sem];exact⟨2,om,om,rfl,fun e g n=>om⟩
 .rintro O S ⟨d,q,c,i,j,b⟩;have r:d*d<=100*100:=bs c c;have k:IntKind.i64.wrap ((d:Int)*d)=((d*d:Nat):Int):=dM (by rw[bL]) om
  have f:¬((d:Int)=0):=om
  by_cases a:d*d<=p
  .have s:d<100:=by
    rcases aA d 100 with h|h
    .exact h
    .have:100*100<=d*d:=bs h h;omega
   by_cases l:p%d=0
   .simp -dsimp only[go_sem,aa,i,j,k,kg,a,f,pa,l,show((((0:Nat)):Int)==0)=true from rfl];have:β=false:=by
     cases β with
     | false=>rfl
     | true=>exact absurd l (hβ.1 rfl d q a)
    rw[this];exact VR.mf rfl
   .have m:(((p%d:Nat):Int)==0)=false:=by simp;omega
    simp -dsimp only[go_sem,aa,i,j,k,kg,a,f,pa,m,aT (om:d<1000000),ca]
    refine⟨⟨d+1,om,om,rfl,fun e g n=>?_⟩,om⟩
    by_cases e':e=d
    .rw[e'];exact l
    .exact b e g om
  .simp -dsimp only[go_sem,aa,i,j,k,kg,a];have:β=true:=hβ.2 fun e g n=>b e g (by
    rcases aA e d with h|h
    .exact h
    .have:=bs h h;omega)
   rw[this];exact VR.mf rfl
def pY(p:Int):Prop:=3<=p/\p<=9973/\sA p.toNat
def pY.of(h:sn p):pY p:=⟨by have:=h.2.1;omega,by have:=h.2.2;omega,h.1⟩
def pY.nat{p:Int}(h:pY p):∃q:Nat,p=q/\sn q:=⟨p.toNat,by have:=h.1;omega,h.2.2,by have:=h.1;omega,by have:=h.2.1;omega⟩
def Kz(p:Int)(a:p<=9973)(β:Bool)(hβ:β=true↔2<=p/\sA p.toNat):PF 240 [.int .i64 p] (.bool β):=by
 by_cases b:p<2
 .refine iQ func240 ntmps240 results240 ?_;simp -dsimp only[go_sem,show decide (p<2)=true by simpa using b]
  rw[dW hβ fun h=>om]
  exact VR.mf rfl
 .obtain⟨q,rfl⟩:∃q:Nat,p=q:=⟨p.toNat,om⟩
  exact Is_pf q om om β (by rw[hβ,cj];exact⟨fun h=>h.2.2,fun h=>⟨om,om,h⟩⟩)
def M6(p:Int)(β:Bool)(hβ:β=true↔pY p):PF 153 [.int .i64 p] (.bool β):=by
 refine iQ func153 ntmps153 results153 ?_;by_cases b:p=2
 .subst b;simp -dsimp only[go_sem,aa,show((2:Int) != 2)=false from rfl];rw[dW hβ fun h=>by have:=h.1;omega]
  exact VR.mf rfl
 have c:(p != 2)=true:=by simpa using b
 simp -dsimp only[go_sem,aa,c];refine PF.call (z:=.bool β) (PF.of_spec (Bj func202 rfl 9 ntmps202 kr sm (by simp[results202]) ?_)) ?_
 .rw[lg,results202];by_cases a:p<=9973
  .simp -dsimp only[go_sem,aa,show decide (p<=9973)=true by simpa using a]
   refine(Kz p a β (by rw[hβ];unfold pY;constructor<;>intro h<;>(refine⟨om,?_⟩;first|exact h.2.2|exact⟨a,h.2⟩))).call ?_
   simp -dsimp only[go_sem,show decide (p<=9973)=true by simpa using a]
   exact VR.mf rfl
  .simp -dsimp only[go_sem,aa,show decide (p<=9973)=false by simpa using a]
   rw[dW hβ fun h=>a h.2.1];exact VR.mf rfl
 simp -dsimp only[go_sem,c];exact VR.mf rfl
def Hn(n:Nat)(H:aJ):Prop:=∀i j,i<n->j<n->((H i j).natAbs:Int)<=176000
def Hn.nb(h:Hn n H){i j:Nat}(a:i<n)(b:j<n):nb (H i j) 18:=by
 have:=h i j a b;unfold Go.Proofs.YtdobfmlmenaajaaGreatDoor.nb;omega
def Hn.r64(h:Hn n H){i j:Nat}(a:i<n)(b:j<n):Dn (H i j):=by
 have:=h i j a b;unfold Dn;omega
def Nk(n:Nat)(H:aJ)(a:1<=n)(e:n<=8)(d:Hn n H)(f:0<det n H/\det n H<=10000):PF 31 [aD n n H] (.int .i64 (det n H)):=by
 refine iQ func31 ntmps31 results31 ?_;simp -dsimp only[go_sem,aa];refine(B2 n n H a om a om (fun i j b c=>d.r64 b c)).call ?_;simp -dsimp only[go_sem,aa];refine(jY n H 18 a om (fun i j b c=>d.nb b c) om).call ?_;simp -dsimp only[go_sem,aa];refine(Br (by unfold jS;omega)).call ?_
 simp -dsimp only[go_sem];exact VR.mf rfl
def Ds(n:Nat)(p:Int)(H:aJ)(b:1<=n)(c:n<=8)(d:Hn n H)(e:0<det n H/\det n H<=10000)(β:Bool)(hβ:β=true↔pY p/\¬det n H%p=0):PF 90 [aD n n H,.int .i64 p] (.bool β):=by
 refine iQ func90 ntmps90 results90 ?_;simp -dsimp only[go_sem,aa];rcases io (pY p)with a|a
 .refine(M6 p true (by simp[a])).call ?_
  have i:=a.1;simp -dsimp only[go_sem,aa];refine(Nk n H b c d e).call ?_;have f:(det n H).tmod p=det n H%p:=aK om;have g:β=(det n H%p != 0):=by
   by_cases h:det n H%p=0
   .rw[h];exact dW hβ fun h'=>h'.2 h
   .rw[hβ.2 ⟨a,h⟩];simp[h]
  simp -dsimp only[go_sem,(om:¬(p=0)),f]
  rw[g];exact VR.mf rfl
 .refine(M6 p false (by simp[a])).call ?_
  simp -dsimp only[go_sem];rw[dW hβ fun h=>a h.1];exact VR.mf rfl
def Kt(n p:Nat)(m:n<=8)(k:1<=p)(c:p<=900):PF 91 [.int .i64 n,.int .i64 p] (.bool (decide (p^n<=65536))):=by
 refine iQ func91 ntmps91 results91 ?_;simp -dsimp only[go_sem];refine aH (fun O S=>∃i:Nat,i<=n/\p^i<=65536/\O 0=.int .i64 n/\O 1=.int .i64 p/\O 5=.int .i64 ((p^i:Nat):Int)/\O 6=.int .i64 i) (fun O S=>n-ca (O 6)) ?_ ?_
 .simp -dsimp only[go_sem];exact⟨0,om,sm,sm,rfl⟩
 .rintro O S ⟨i,o,b,d,e,f,g⟩;by_cases a:i<n
  .have q:p^i*p<=65536*900:=bs b c;have j:IntKind.i64.wrap (((p^i:Nat):Int)*p)=((p^(i+1):Nat):Int):=dM (by rw[bQ,bL]) (by rw[bQ];omega)
   by_cases l:p^(i+1)<=65536
   .simp -dsimp only[go_sem,d,e,f,g,a,j,(om:¬((65536:Int)<((p^(i+1):Nat):Int))),aT (om:i<1000000),ca]
    exact⟨⟨i+1,om,l,rfl,rfl⟩,om⟩
   .simp -dsimp only[go_sem,d,e,f,g,a,j,show((65536:Int)<((p^(i+1):Nat):Int)) by omega]
    have:p^(i+1)<=p^n:=bZ k a;have h:decide (p^n<=65536)=false:=by simp;omega
    rw[h];exact VR.mf rfl
  .obtain rfl:i=n:=om
   simp -dsimp only[go_sem,d,e,f,g,a];have h:decide (p^i<=65536)=true:=by simp;exact b
   rw[h];exact VR.mf rfl
def zL{s a b:Int}:(s%m+(a%m)*(b%m)%m)%m=(s+a*b)%m:=by
 rw[QO s,fJ a b]
def zg(n m:Nat)(H:aJ)(v:Nat->Int)(N:n<=8)(P:1<=m)(C:m<=2147483647):PF 60 [aD n n H,aV n v,.int .i64 m] (aV n (fun i=>(az n fun j=>H i j*v j)%m)):=by
 refine iQ func60 ntmps60 results60 ?_;have w:¬((m:Int)=0):=om
 simp -dsimp only[go_sem,aD,aV];refine aH (fun O S=>∃(i:Nat) (x:AV),i<=n/\O 1=aV n v/\O 2=.int .i64 m/\O 7=x/\O 13=aD n n H/\O 14=.int .i64 n/\O 15=.int .i64 i/\cV 2 1 St.none S x i (fun i=>.int .i64 ((az n fun j=>H i j*v j)%m))) (fun O S=>n-ca (O 15)) ?_ ?_
 .simp -dsimp only[go_sem,aD,aV];exact⟨0,om,rfl,cV.nil (eQ.noneS _) _⟩
 .rintro O S ⟨i,x,Q,t,u,g,b,d,e,y⟩;by_cases r:i<n
  .simp -dsimp only[go_sem,aD,aV,g,b,d,e,r];refine aH (fun O S'=>∃j:Nat,j<=n/\O 1=aV n v/\O 2=.int .i64 m/\O 7=x/\O 10=.int .i64 ((az j fun j=>H i j*v j)%m)/\O 13=aD n n H/\O 14=.int .i64 n/\O 15=.int .i64 i/\O 19=aV n (H i)/\O 20=.int .i64 n/\O 21=.int .i64 j/\S'=S) (fun O S=>n-ca (O 21)) ?_ ?_
   .simp -dsimp only[go_sem,aD,aV,t,u,g,b,d,e];exact⟨0,om,by simp[az],rfl⟩
   .rintro O S' ⟨j,R,t,u,g,f,b,d,e,k,l,o,rfl⟩;by_cases p:j<n
    .have q:(0:Int)<m:=om
     have D:=aU (H i j) (show(m:Int)≠0 by omega)
     have T:=aS (H i j) q;have B:=aU (v j) (show(m:Int)≠0 by omega)
     have U:=aS (v j) q;have E:=cZ D B;have V:H i j%m*(v j%m)<=2147483647*2147483647:=cB om om B om;have F:IntKind.i64.wrap (H i j%m*(v j%m))=H i j%m*(v j%m):=i64_in om om;have G:eN (H i j%m*(v j%m)) m=(H i j%m*(v j%m))%m:=aK E;have W:=aU (az j fun j=>H i j*v j) (show(m:Int)≠0 by omega)
     have X:=aS (az j fun j=>H i j*v j) q;have Y:=aU (H i j%m*(v j%m)) (show(m:Int)≠0 by omega)
     have Z:=aS (H i j%m*(v j%m)) q;have I:IntKind.i64.wrap ((az j fun j=>H i j*v j)%m+(H i j%m*(v j%m))%m)=(az j fun j=>H i j*v j)%m+(H i j%m*(v j%m))%m:=i64_in om om;have J:eN ((az j fun j=>H i j*v j)%m+(H i j%m*(v j%m))%m) m=(az (j+1) fun j=>H i j*v j)%m:=by
      rw[aK om,zL];rfl
     simp -dsimp only[go_sem,aD,aV,g,f,k,l,o,p];refine bF 16 kr ?_
     simp -dsimp only[go_sem,aa,aD,aV,t,u,g,f,b,d,e,k,l,o,p];refine⟨_,(Dp q om).pure',_,(Dp q om).pure',?_⟩;simp -dsimp only[go_sem,w,F,G,I,J,aT (om:j<1000000),ca]
     exact⟨⟨j+1,om,rfl,rfl⟩,om⟩
    .obtain rfl:j=n:=om
     simp -dsimp only[go_sem,aD,aV,g,f,k,l,o,p];refine aG.intro fun K z=>?_;simp -dsimp only[go_sem,g,f];have s:=y.fresh z;refine cV.app2 (y.upd (by rfl) s _) om (show eg 1 (.int .i64 ((az j fun j=>H i j*v j)%m)) by simp[eg]) (bO ⟨_,_,_,rfl,ci,rfl,fun h=>s _ h rfl⟩) ?_
     intro c S2 A L M;simp -dsimp only[go_sem,aD,aV,t,u,g,f,b,d,e,aT (om:i<1000000),ca]
     exact⟨⟨i+1,om,rfl,A.congr fun a ha=>by grind⟩,om⟩
  .obtain rfl:i=n:=om
   simp -dsimp only[go_sem,aD,aV,g,b,d,e,r];exact y.vr fun a _=>VR.mf rfl

def RJ(Q:aJ)(n:Nat)(Rf R:aJ)(S0 S:St)(x:AV):Prop:=∃(b:Nat) (g:Nat->Nat),Ha Q n R Rf/\FL Q n 190 193 R/\x=.sl 1 b 0 n/\dA S b g n n (t9 R)/\eQ S0 S
def Lk(d:j<i)(e:i<n)(g:a<n)(b:c<n):li n (t9 R) (eV kd j i q) a c=t9 (ql R i j (-q)) a c:=by
 have h:=uC (n:=n) (i:=i) (j:=j) (a:=c) (q:=q) (f:=fun t=>R t a) om om b;rw[show li n (t9 R) (eV kd j i q) a c=az n (fun t=>eV kd j i q t c*R t a)from aF fun t _=>cR _ _,h];simp only[t9,ql];split
 .grind
 .grind
def Lj(d:0<i)(e:i<n)(j:a<n)(g:c<n):li n (t9 R) (fun a b=>kd (dG (i-1) i a) b) a c=t9 (fun a b=>R (dG (i-1) i a) b) a c:=by
 have h:=uB (n:=n) (p:=i) (a:=c) (f:=fun t=>R t a) d e g;rw[show li n (t9 R) (fun a b=>kd (dG (i-1) i a) b) a c=az n (fun t=>kd (dG (i-1) i t) c*R t a)from aF fun t _=>cR _ _,h];rfl
structure RedR(Q:aJ)(n:Nat)(R:aJ):Prop where
 inv:FL Q n 190 193 R
 red:KQ (gT Q n R) n
def AF(n:Nat)(Q:aJ)(u:QF n Q):∃R,RedR Q n R/\∀S,cE 53 [aQ n n Q] S (fun r S'=>∃b g c gc S1,r=.tup [.sl 1 b 0 n,.sl 1 c 0 n,.int .i64 0]/\iE S1 S' b g n n (gT Q n R)/\dA S' c gc n n (t9 R)/\eQ S S1):=by
 have l:=u.one;have h2:=u.five;have K:=u.pd.sym;have X:=u.dt;have L:∀i j,i<n->j<n->nb (Q i j) 39:=fun i j M N=>by have:=u.ent i j M N;unfold nb;omega
 obtain⟨Rf,Y,v,P⟩:=N8 (Q:=Q) (n:=n) (d:=190) (E:=193) K om om _ kd u.init (ae _);have w:KQ (gT Q n Rf) n:=KQ.of v.ls.pd P om (by rw[v.dn];omega)
 refine⟨Rf,⟨v,w⟩,fun S0=>?_⟩;refine jr func53 ntmps53 results53 ?_;simp -dsimp only[go_sem,aa];refine(nR n Q 39 l om L om K true (by simp;exact u.pd.pos)).call ?_
 simp -dsimp only[go_sem,aa,show((0:Int) != 0)=false from rfl];refine(Bk n Q 39 l om L om).call ?_;simp -dsimp only[go_sem,aa,X];refine((Dx n n Q 39 om l om L om).congr (B:=gT Q n kd) (fun a c f h=>(uV f h).symm)).pf.call ?_;simp -dsimp only[go_sem,aa,aQ];refine(qL n l om _ _ (cI _ _)).mono ?_;rintro r S1 ⟨b,g,rfl,C⟩;simp -dsimp only[go_sem];refine aH (fun O S=>∃R:aJ,O 6=aQ n n (gT Q n R)/\RJ Q n Rf R S0 S (O 7)) (fun O S=>uR (matOf (O 6)) n) ?_ ?_
 .simp -dsimp only[go_sem,aQ,a8];exact⟨kd,rfl,b,g,Y,u.init,rfl,C.1.congr fun a c _ _=>by simp only[t9,kd];by_cases e:a=c<;>simp[e,eq_comm],C.2.1⟩
 .rintro O S ⟨R,q,b,g,D,v,F,C,T⟩;obtain⟨bA,bT,bq⟩:=v.bits u;have m:∀i j,i<n->j<n->nb (gT Q n R i j) 17540:=bA;have s:∀k,k<=n->0<det k (gT Q n R):=fun k Z=>v.ls.pd.pos k Z
  cases D with
  | done t =>
   simp -dsimp only[go_sem,aa,q];refine(Cu n (gT Q n Rf) 17540 l om m om s .done t).call ?_;simp -dsimp only[go_sem,aa,q,evV];have G:∀i j,i<n->j<n->jS (gT Q n Rf i j):=fun i j M N=>OK (w.entry om M N);refine(vu n n (gT Q n Rf) l om l om G _ _ (cI _ _)).mono ?_;rintro r S2 ⟨H,I,rfl,o⟩;simp -dsimp only[go_sem,q,F];exact⟨H,I,b,rfl,g,S,o,C.ext o.2.1,T⟩
  | size t p =>
   rename_i i j;obtain⟨x,y,U,V,W⟩:=t;have t:vL (gT Q n R) n (.size i j):=⟨x,y,U,V,W⟩;have J:∀a c,a<n->c<n->nb (Qj (gT Q n R) (.size i j) a c) 17940:=fun a c _ _=>by
    simp only[Qj,eV];split
    .exact bq i j y x
    .exact Mk a c _ om
   obtain⟨z,A⟩:=v.add K om om t;have e0:gT Q n (ql R i j (-IL (gT Q n R) i j))=lR (gT Q n R) i j (IL (gT Q n R) i j):=by rw[GH K,Hi]
   simp -dsimp only[go_sem,aa,q];refine(Cu n (gT Q n R) 17540 l om m om s (.size i j) t).call ?_;simp -dsimp only[go_sem,aa,q,evV];refine((tY n (gT Q n R) (Qj (gT Q n R) (.size i j)) 17940 l om (fun a c f h=>(m a c f h).mono om) (fun a c f h=>J a c f h) om).congr (B:=gT Q n (ql R i j (-IL (gT Q n R) i j))) (fun a c f h=>by rw[e0];exact GS x y f h)).pf.call ?_
   simp -dsimp only[go_sem,aa,q,F];refine(lT n n n (t9 R) (Qj (gT Q n R) (.size i j)) 17940 l om l om l om (fun a c f h=>nb.mono (bT c a h f) om) (fun a c f h=>J a c f h) om _ _ (fD.mat C (cI _ _))).mono ?_;rintro r S2 ⟨H,I,rfl,o⟩;simp -dsimp only[go_sem,q,F];exact⟨⟨_,rfl,H,I,p,z,rfl,o.1.congr fun a c f h=>Lk x y f h,T.trans o.2.1⟩,A⟩
  | swap t p =>
   rename_i i;obtain⟨x,y,U,V,W⟩:=t;have t:vL (gT Q n R) n (.swap i):=⟨x,y,U,V,W⟩;have J:∀a c,a<n->c<n->nb (Qj (gT Q n R) (.swap i) a c) 17940:=fun a c _ _=>Mk _ c _ om;obtain⟨z,A⟩:=v.swap om om t;simp -dsimp only[go_sem,aa,q];refine(Cu n (gT Q n R) 17540 l om m om s (.swap i) t).call ?_;simp -dsimp only[go_sem,aa,q,evV];refine((tY n (gT Q n R) (Qj (gT Q n R) (.swap i)) 17940 l om (fun a c f h=>(m a c f h).mono om) (fun a c f h=>J a c f h) om).congr (B:=gT Q n (fun a b=>R (dG (i-1) i a) b)) (fun a c f h=>GR x y f h)).pf.call ?_;simp -dsimp only[go_sem,aa,q,F];refine(lT n n n (t9 R) (Qj (gT Q n R) (.swap i)) 17940 l om l om l om (fun a c f h=>nb.mono (bT c a h f) om) (fun a c f h=>J a c f h) om _ _ (fD.mat C (cI _ _))).mono ?_;rintro r S2 ⟨H,I,rfl,o⟩;simp -dsimp only[go_sem,q,F];exact⟨⟨_,rfl,H,I,p,z,rfl,o.1.congr fun a c f h=>Lj x y f h,T.trans o.2.1⟩,A⟩
def Fv(n:Nat)(Q:aJ)(a:QF n Q):∃R,RedR Q n R/\PF 53 [aQ n n Q] (.tup [aD n n (gT Q n R),aQ n n (t9 R),.int .i64 0]):=by
 obtain⟨R,d,h⟩:=AF n Q a;refine⟨R,d,PF.of_spec ((h St.none).mono ?_)⟩;rintro _ S' ⟨b,g,c,gc,S1,rfl,e,f,_⟩;exact VR.tup3 e.1.vr f.vr (VR.mf rfl)

end Go.Proofs.YtdobfmlmenaajaaGreatDoor
