/-
  Lemmas for NeighbourVerify.
-/
import Derived.Test.YtdobfmlmenaajaaGreatDoorV31
namespace Go.Proofs.YtdobfmlmenaajaaGreatDoor
open Go.RowKit Tryz
open _root_.Option renaming none→ab
set_option maxHeartbeats 6400000
set_option maxRecDepth 4096
set_option linter.all false
attribute [local go_sem] Nat.reduceAdd Nat.reduceEqDiff Nat.reduceLeDiff Nat.reduceLT reduceCtorEq Int.ofNat_lt decide_true decide_false Int.zero_le_ofNat
attribute [local go_sem ↓] reduceIte
variable{K:AV->Prop}{t u:Int}{a b c i k m n p:Nat}{f w:Nat->Int}{v:Nat->Nat}{S:St}{A B B' H:aH}{l q:ig}
def iK(v:Nat->Nat)(p:Int)(piv:Nat)(t:Int):ig:=fun i=>if i=piv then((v i:Nat):Int)+p*t else v i
def Qi(a:p∈cw){x:Int}(b:0<x)(c:x<p):∃iv:Int,(p:Int)∣iv*x-1:=by
 obtain⟨_,h⟩:=Ap a b c;refine⟨DO 20 p x 0 1%p,cR ?_⟩;rw[Sz,ck,h,dH (show(0:Int)<=1 by omega) (by
  have:=a;simp only[cw,ed,aR,jz]at this;omega)]
 simp
def sH.char(l:p∈cw)(h:sH n p H v B) :
  ∃(piv:Nat) (t:Int),piv<n/\gY n H p (fun k=>v k) piv≠0/\(p:Int)*p∣jy n H (iK v p piv t) (iK v p piv t)/\∀y,fC n n B y↔BO n p (gY n H p (fun k=>v k)) (iK v p piv t) y:=by
 have m:3<=p/\p<=17:=by
  have f:=l;simp only[cw,ed,aR,jz]at f;omega
 obtain⟨piv,t,inv,b,o,r,g,e,i,s,u⟩:=h.ex;refine⟨piv,t,b,i,g,fun y=>?_⟩;have a:=rf (n:=n) (H:=H) (p:=(p:Int)) (v:=fun k=>((v k:Nat):Int)) om;have c:=dH (a piv).1 (a piv).2;obtain⟨_,d⟩:=Ap l (x:=gY n H p (fun k=>v k) piv%p) (by rw[c];have:=a piv;omega) (by rw[c];exact(a piv).2)
 rw[<-e,c]at d;rw[u.members s y];refine Dx (p:=(p:Int)) om (piv:=piv) b (w:=gY n H p (fun k=>v k)) (q:=fun j=>gY n H p (fun k=>v k) j*inv%p) (inv:=inv) ?_ (fun j C z=>?_) y
 .refine cR ?_;rw[Sz,ck,d,dH (show(0:Int)<=1 by omega) om]
  simp
 .refine cR ?_;have A:(gY n H p (fun k=>v k) j*inv%p*gY n H p (fun k=>v k) piv)%p=gY n H p (fun k=>v k) j%p:=by
   rw[fP,j8 _ (iL _),<-fP,fK,fP,ck inv,d,iN,j8 _ (iL _)]
  rw[Sz,A,Int.sub_self,Int.zero_emod]
def MD(n:Nat)(H:aH)(p:Int)(v:ig)(i:Nat):p∣(aq n fun j=>H i j*v j)-gY n H p v i:=by
 rw[yy];exact Int.dvd_self_sub_emod
def Ad{p:Int}{v:ig}(a:∀i,i<n->p∣l i-v i)(i:Nat):p∣(aq n fun j=>H i j*l j)-gY n H p v i:=by
 have e:(aq n fun j=>H i j*l j)-gY n H p v i=((aq n fun j=>H i j*v j)-gY n H p v i)+aq n fun j=>H i j*(l j-v j):=by
  have:(aq n fun j=>H i j*l j)=(aq n fun j=>H i j*v j)+aq n fun j=>H i j*(l j-v j):=by
   rw[<-eE];exact aB fun j _=>by grind
  omega
 rw[e];exact iO (MD n H p v i) (jg fun j b=>cD (a j b))
def wy{p:Int}{piv:Nat}(i:Nat):p∣iK v p piv t i-(v i:Nat):=by
 unfold iK;split
 .exact⟨t,om⟩
 .exact⟨0,om⟩
def FA(a:ll n p H v):(p:Int)∣aq n fun i=>gY n H p (fun k=>v k) i*(v i:Nat):=by
 refine cR ?_;rw[<-a.norm];unfold fB;refine nU n _ _ p fun i _=>?_;rw[yy];show((aq n fun j=>H i j*((v j:Nat):Int))%p*_)%p=_;rw[fP,j8 _ (iL _),<-fP]
def Lc(a:ll n p H v)(b:∀i,i<n->(p:Int)∣l i-(v i:Nat)):(p:Int)∣aq n fun i=>gY n H p (fun k=>v k) i*l i:=by
 have e:(aq n fun i=>gY n H p (fun k=>v k) i*l i)=(aq n fun i=>gY n H p (fun k=>v k) i*(v i:Nat))+aq n fun i=>gY n H p (fun k=>v k) i*(l i-(v i:Nat)):=by
  rw[<-eE];exact aB fun i _=>by grind
 rw[e];exact iO (FA a) (jg fun i c=>cD (b i c))
def sH.tri(h:sH n p H v B):(∀r c,r<c->c<n->B r c=0)/\(∀r,r<n->0<B r r)/\(∀c j,c<n->j<c->0<=B c j/\B c j<B c c)/\wU n n B:=by
 obtain⟨piv,t,inv,_,_,_,_,_,_,g,e⟩:=h.ex;have a:=e.herm;exact⟨fun r c b f=>a.up r c b om om,a.pos,a.rng,fun r d=>⟨fun j b f=>a.up r j b d om,a.pos r d⟩⟩
def sH.gram(d:ge n H)(e:p∈cw)(h:sH n p H v B){i j:Nat}(f:i<n)(g:j<n):(p:Int)*p∣mm n (mm n (fun i j=>B j i) H) B i j:=by
 obtain⟨piv,t,c,l,b,a⟩:=h.char e;rw[qv];exact FH d.red.pd.sym (fun i _=>Ad (fun k _=>wy k) i) b ((a _).1 (fC.col f)) ((a _).1 (fC.col g))
def sH.unit(c:p∈cw)(h:sH n p H v B){k:Nat}(f:k<n):fC n n B (gR ((p:Int)*p) k):=by
 obtain⟨piv,t,b,d,e,a⟩:=h.char c;refine(a _).2 ⟨0,gR p k,fun i _=>?_,?_⟩
 .unfold gR;split<;>simp
 .refine jg fun i _=>cD ?_;unfold gR;split
  .exact iL _
  .exact jp _
def sH.ent(g:p∈cw)(h:sH n p H v B){i j:Nat}(d:i<n)(k:j<n):0<=B i j/\B i j<=289:=by
 have c:3<=p/\p<=17:=by
  have e:=g;simp only[cw,ed,aR,jz]at e;omega
 obtain⟨l,m,o,q⟩:=h.tri;have t:B i i<=289:=by
  have f:=(TL.of_tri q).dvd _ (h.unit g d) i d (fun r u=>by unfold gR;rw[af om])
  unfold gR at f;rw[ah rfl]at f;have s:(0:Int)<p*p/\(p:Int)*p<=289:=by
   rw[<-bF];have a:=aV c.2 c.2;have b:=aV c.1 c.1;omega
  have:=pn s.1 f;omega
 rcases dS i j with h|h|h
 .rw[l i j h k];omega
 .subst h;have:=m i d;omega
 .have:=o i j d h;omega
def Ka{u v:ig}(f:n<=5)(g:∀i j,i<n->j<n->(H i j).natAbs<=a)(h:∀i,i<n->(u i).natAbs<=b)(k:∀i,i<n->(v i).natAbs<=c):(jy n H u v).natAbs<=25*(a*b*c):=by
 have l:∀i,i<n->(aq n fun j=>H i j*v j).natAbs<=n*(a*c):=fun i m=>by
  refine a9 (pF _ _) (mB fun j d=>?_);rw[cH];exact aV (g i j m d) (k j d)
 have o:(jy n H u v).natAbs<=n*(n*(a*c)*b):=by
  refine a9 (pF _ _) (mB fun j d=>?_);rw[cH];exact aV (l j d) (h j d)
 refine a9 o ?_;have p:n*n<=5*5:=aV f f;have q:=aD (a*b*c) p;have e:n*(n*(a*c)*b)=n*n*(a*b*c):=by grind
 omega
def sH.gram_ent(g:ge n H)(k:p∈cw)(h:sH n p H v B){i j:Nat}(d:i<n)(e:j<n):(mm n (mm n (fun i j=>B j i) H) B i j).natAbs<=246591576450:=by
 rw[qv];have:=Ka (H:=H) (a:=118098) (b:=289) (c:=289) g.five (fun i j d e=>by have:=g.ent i j d e;omega) (u:=fun r=>B r i) (v:=fun r=>B r j) (fun r f=>by have:=h.ent k f d;omega) (fun r f=>by have:=h.ent k f e;omega)
 omega
def P6{piv:Nat}(o:ge n H)(f:p∈cw)(q:ll n p H v)(d:piv<n)(g:qT n H p (fun k=>v k) piv≠0):∃t:Int,0<=t/\t<p/\(p:Int)*p∣jy n H (iK v p piv t) (iK v p piv t):=by
 have m:3<=p/\p<=17:=by
  have i:=f;simp only[cw,ed,aR,jz]at i;omega
 have e:0<=qT n H p (fun k=>v k) piv/\qT n H p (fun k=>v k) piv<p:=⟨aT _ om,aP _ om⟩;generalize j:qT n H p (fun k=>v k) piv=sl at *;have h2s:0<2*sl%p/\2*sl%p<p:=by
  have a:=aT (2*sl) (show(p:Int)≠0 by omega)
  have b:=aP (2*sl) (show(0:Int)<p by omega)
  have c:2*sl%p≠0:=fun h=>by
   rcases oo f 2 sl (cR h)with h|h
   .have:=pn om h;omega
   .exact g (by have:=fm h;rwa [dH e.1 e.2]at this)
  omega
 obtain⟨_,l⟩:=Ap f h2s.1 h2s.2;exact⟨_,aT _ om,aP _ om,Ct o.red.pd.sym d (show(0:Int)<p by omega) j l rfl q.norm rfl⟩

def MO(h:∀i,i<n->0<=f i):0<=aq n f:=by
 induction n with
 | zero=>exact sF _
 | succ n ih =>
  have a:=ih fun i b=>h i om;have c:=h n om;show 0<=aq n f+f n;omega
def MP(h:∀i,i<n->0<=f i){i:Nat}(a:i<n):f i<=aq n f:=by
 induction n with
 | zero=>omega
 | succ n ih =>
  have b:=MO (n:=n) (f:=f) fun i a=>h i om;have c:=h n om;show f i<=aq n f+f n;by_cases e:i=n
  .subst e;omega
  .have:=ih (fun i a=>h i om) om;omega
def KJ(b:m<=n):aq n (fun j=>if j<m then f j else 0)=aq m f:=by
 induction n with
 | zero =>
  obtain rfl:m=0:=om
  rfl
 | succ n ih =>
  by_cases e:m=n+1
  .subst e;exact aB fun i a=>by rw[ah a]
  .show aq n _+(if n<m then f n else 0)=_
   rw[ih om,af om,Int.add_zero]
def Cv(p:wU n n B)(d:wU n n B')(q:∀c j,c<n->j<c->0<=B c j/\B c j<B c c)(u:∀c j,c<n->j<c->0<=B' c j/\B' c j<B' c c)
  (C:∀y,fC n n B y↔fC n n B' y):∀i j,i<n->j<n->B i j=B' i j:=by
 have t:=TL.of_tri p;have t':=(TL.of_tri d).congr t.lat C;have v:∀i,i<=n->Fc B n i=Fc B' n i:=fun i a=>t.uniq t' (n-i) i om a;have hdiag:∀i,i<n->B i i=B' i i:=fun i a=>by
  have f:=t.step i a;have g:=t'.step i a;have D:=t.M_pos n (i+1) om om;rw[v i om,v (i+1) om]at f;rw[v (i+1) om]at D;rw[f]at g;exact Int.eq_of_mul_eq_mul_right om g
 intro i j a s;rcases aF i j with h|h
 .rw[(p i a).1 j h s,(d i a).1 j h s]
 have E:fC n n B (fun r=>1*B r j+(-1)*B' r j):=by
  obtain⟨c,F⟩:=(C _).2 (fC.col (n:=n) (B:=B') s);obtain⟨G,w⟩:=fC.col (n:=n) (B:=B) s;refine⟨fun k=>1*G k+(-1)*c k,fun r q=>?_⟩;have f:=F r q;have g:=w r q;dsimp only at f g ⊢;rw[f,g,<-pE];exact aB fun k _=>by grind
 have key:∀m i,i<n->j<=i->i-j<=m->∀r,r<=i->B r j=B' r j:=by
  intro m
  induction m with
  | zero =>
   intro i a l H r o;obtain rfl:i=j:=om
   rcases aF r i with e|e
   .rw[(p r om).1 i e a,(d r om).1 i e a]
   .obtain rfl:r=i:=om
    exact hdiag r a
  | succ m ih =>
   intro i a l H r o;rcases aF j i with e|e
   .have ih':=ih (i-1) om om om;rcases aF r i with I|I
    .exact ih' r om
    .obtain rfl:r=i:=om
     have J:=t.dvd _ E r a (fun k M=>by rw[ih' k om];omega)
     have N:=q r j a e;have K:=u r j a e;rw[<-hdiag r a]at K;obtain⟨z,L⟩:=J;have b:=(p r a).2;have x:z=0:=by
      rcases fy z 0 with A|A|A
      .have:=ca (om:z<=-1) (cC b)
       omega
      .exact A
      .have:=ca (om:1<=z) (cC b)
       omega
     rw[x]at L;omega
   .exact ih i a l om r o
 exact key (i-j) i a h (ae _) i (ae _)
def Pd.bil_pos(h:Pd A n){x:ig}{j:Nat}(k:j<n)(f:x j≠0):0<jy n A x x:=by
 obtain⟨m,rfl⟩:∃m,n=m+1:=⟨n-1,om⟩
 obtain⟨E,e⟩:∃E:Int,∀i,i<m+1->A i i<=E:=⟨aq (m+1) (fun i=>A i i),fun i b=>by
  have:=MP (fun i b=>cC (h.diag b)) b;exact this⟩
 have l:=h.coord (m-j) x j e om;have o:0<x j*x j:=by
  rcases fy (x j) 0 with a|a|a
  .have:=Int.mul_pos_of_neg_of_neg a a;exact this
  .exact absurd a f
  .exact lM a a
 have c:0<=E:=by have:=e 0 om;have:=h.diag (om:0<m+1);omega
 have g:0<=E^m:=Int.pow_nonneg c;rcases l9 0 (jy (m+1) A x x)with d|d
 .exact d
 .have:=ca d g;omega
theorem Fi{A:aH}{k:Nat}(b:∀j,j<=k->det j A≠0)(d:∀c,A k c=du k c):∀j,j<=k->(∀c,j<=c->c<k->cX A j (k-j) (c-j)=0)/\cX A j (k-j) (k-j)=det j A
 | 0,_=>by
  refine⟨fun c _ m=>?_,?_⟩
  .rw[gZ,d6,d6,d];unfold du;rw[af om]
  .rw[gZ,d6,d];simp[du,det]
 | j+1,n=>by
  obtain⟨i,o⟩:=Fi b d j om;have e:=i j (ae _) om;rw[cq]at e;have st:=fun c (m:j+1<=c)=>jh (A:=A) (k:=j) (fun x p=>b x om) (k-(j+1)) (c-(j+1));have l:k-(j+1)+1=k-j:=om
  refine⟨fun c f g=>?_,?_⟩
  .have a:=st c f;rw[l,(om:c-(j+1)+1=c-j),e,i c om g]at a
   simp only[jZ,kU,Int.sub_zero]at a;rcases fZ.1 a.symm with h|h
   .exact absurd h (b j om)
   .exact h
  .have a:=st k n;rw[l,e,o]at a;simp only[kU,Int.sub_zero,dd]at a;refine cL (b j om) ?_;rw[<-a,ck]
def Oe(f:∀j,j<=k->det j A≠0):qa (k+1) A k k=det k A:=by
 have e:∀j,j<=k->det j (setRow A k (du k))=det j A:=fun j d=>bI fun a b g _=>by simp only[setRow];rw[af om]
 have h:=(Fi (A:=setRow A k (du k)) (k:=k) (fun j d=>by rw[e j d];exact f j d) (fun c=>by simp only[setRow,aK]) k (ae _)).2
 rw[cq,dd,e k (ae _)]at h;exact h
def Pd.of_pos(o:∀a b,a<n->b<n->A a b=A b a)(p:∀x:ig,(∃j,j<n/\x j≠0)->0<jy n A x x):Pd A n:=by
 refine⟨o,fun k=>?_⟩
 induction k using Nat.strongRecOn with
 | _ k ih =>
  intro g
  match k,g,ih with
  | 0,_,_=>simp[det]
  | k+1,g,ih =>
   have q:∀j,j<=k->det j A≠0:=fun j s=>by have:=ih j om om;omega
   have h:=Oe q;have r:=ih k om om;have d:=p (fun j=>if j<k+1 then qa (k+1) A k j else 0) ⟨k,om,by rw[ah om,h];omega⟩
   have e:jy n A (fun j=>if j<k+1 then qa (k+1) A k j else 0) (fun j=>if j<k+1 then qa (k+1) A k j else 0)=det (k+1) A*det k A:=by
    have c:∀i,i<k+1->(aq n fun j=>A i j*(if j<k+1 then qa (k+1) A k j else 0))=if k=i then det (k+1) A else 0:=fun i l=>by
     rw[<-uB A (om:k<k+1) l,<-KJ (om:k+1<=n)]
     exact aB fun j _=>by split<;>simp
    unfold jy;rw[cJ k om (fun i l f=>?_)]
    .dsimp only;rw[c k om,ah rfl,ah om,h]
    .dsimp only;by_cases m:i<k+1
     .rw[c i m,af (aj f),kU]
     .rw[af m,jZ]
   rw[e]at d;rw[ck]at d;exact qm r d

def p6(a:p∈cw):3<=p/\p<=17:=by
 simp only[cw,ed,aR,jz]at a;omega
def RR(e:p∈cw):9<=(p:Int)*p/\(p:Int)*p<=289:=by
 obtain⟨c,d⟩:=p6 e;rw[<-bF];have a:=aV c c;have b:=aV d d;omega
def wL(n:Nat)(H:aH)(p:Nat)(v:Nat->Nat):ig:=gY n H p (fun k=>v k)
structure tN(n p:Nat)(H:aH)(v:Nat->Nat)(B:aH):Prop where
 tri:wU n n B
 red:∀c j,c<n->j<c->0<=B c j/\B c j<B c c
 piv:∃i,i<n/\wL n H p v i≠0
 lat:∃l:ig,(∀i,i<n->(p:Int)∣l i-(v i:Nat))/\(p:Int)*p∣jy n H l l/\∀y,fC n n B y↔BO n p (wL n H p v) l y
def sH.nbB(a:p∈cw)(h:sH n p H v B):tN n p H v B:=by
 obtain⟨piv,t,b,c,d,e⟩:=h.char a;obtain⟨_,_,f,g⟩:=h.tri;exact⟨g,f,⟨piv,b,c⟩,iK v p piv t,fun i _=>wy i,d,e⟩
def P5(d:ge n H)(g:p∈cw){l x:ig}(k:∀i,i<n->(p:Int)∣x i-(v i:Nat))(f:(p:Int)*p∣jy n H x x)(t:∀i,i<n->(p:Int)∣l i-(v i:Nat))(m:(p:Int)*p∣jy n H l l) :
  ∃a:ig,(∀i,i<n->l i=x i+p*a i)/\(p:Int)∣aq n fun i=>wL n H p v i*a i:=by
 have o:=p6 g;have q:∀i,i<n->l i=1*x i+p*((l i-x i)/p):=fun i b=>by
  rw[gW]
  .omega
  .have u:=t i b;have w:=k i b;rw[(om:l i-x i=(l i-(v i:Nat))-(x i-(v i:Nat)))]
   exact IY u w
 refine⟨fun i=>(l i-x i)/p,fun i b=>by have:=q i b;dsimp only;omega,?_⟩
 generalize y:(fun i=>(l i-x i)/(p:Int))=a;have c:∀i,i<n->l i=1*x i+p*a i:=fun i b=>by rw[<-y];exact q i b
 rw[sn c c,pR,jn d.red.pd.sym x,jn d.red.pd.sym a (fun i=>1*x i+p*a i),pR,pR,jn d.red.pd.sym x a]at m;have z:(p:Int)∣2*jy n H a x:=by
  obtain⟨r,A⟩:=f;obtain⟨s,B⟩:=m;refine⟨s-r-jy n H a a,cL (show(p:Int)≠0 by omega) ?_⟩
  rw[A]at B
  grind
 have C:(p:Int)∣jy n H a x:=by
  rcases oo g _ _ z with h|h
  .have:=pn om h;omega
  .exact h
 have e:(aq n fun i=>wL n H p v i*a i)=jy n H a x-aq n fun i=>((aq n fun j=>H i j*x j)-wL n H p v i)*a i:=by
  unfold jy;rw[<-lF];exact aB fun i _=>by grind
 show(p:Int)∣aq n fun i=>wL n H p v i*a i;rw[e];exact IY C (jg fun i _=>gX (Ad k i))
def FF(g:ge n H)(j:p∈cw){l x:ig}(k:∀i,i<n->(p:Int)∣x i-(v i:Nat))(d:(p:Int)*p∣jy n H x x)(m:∀i,i<n->(p:Int)∣l i-(v i:Nat))(o:(p:Int)*p∣jy n H l l)(y:ig)(h:BO n p (wL n H p v) l y):BO n p (wL n H p v) x y:=by
 obtain⟨a,q,r⟩:=P5 g j k d m o;obtain⟨c,b,s,e⟩:=h;refine⟨c,fun i=>b i+c*a i,fun i f=>by rw[s i f,q i f];grind,?_⟩
 rw[tY];exact iO e (cD r)
def tN.uniq(e:ge n H)(f:p∈cw)(h:tN n p H v B)(h':tN n p H v B'):∀i j,i<n->j<n->B i j=B' i j:=by
 obtain⟨l,g,k,m⟩:=h.lat;obtain⟨l',a,b,c⟩:=h'.lat;exact Cv h.tri h'.tri h.red h'.red fun y=>⟨fun d=>(c y).2 (FF e f a b g k y ((m y).1 d)),fun d=>(m y).2 (FF e f g k a b y ((c y).1 d))⟩
def tN.unit(h:tN n p H v B){k:Nat}:fC n n B (gR ((p:Int)*p) k):=by
 obtain⟨l,_,_,a⟩:=h.lat;refine(a _).2 ⟨0,gR p k,fun i _=>?_,?_⟩
 .unfold gR;split<;>simp
 .refine jg fun i _=>cD ?_;unfold gR;split
  .exact iL _
  .exact jp _
def tN.ent(d:p∈cw)(h:tN n p H v B){i j:Nat}(b:i<n)(e:j<n):0<=B i j/\B i j<=(p:Int)*p:=by
 have f:=RR d;have g:B i i<=(p:Int)*p:=by
  have c:=(TL.of_tri h.tri).dvd _ (h.unit (k:=i)) i b (fun r l=>by unfold gR;rw[af om])
  unfold gR at c;rw[ah rfl]at c;exact pn om c
 rcases dS i j with a|a|a
 .rw[(h.tri i b).1 j a e];omega
 .subst a;have:=(h.tri i b).2;omega
 .have:=h.red i j b a;omega
def tN.det(y:p∈cw)(o:ll n p H v)(h:tN n p H v B):det n B=(p:Int)^n:=by
 have z:=p6 y;obtain⟨l,A,F,q⟩:=h.lat;obtain⟨piv,g,c⟩:=h.piv;obtain⟨d,f,m⟩:=Cu o.lead;have b:∀i,0<=wL n H p v i/\wL n H p v i<p:=fun i=>rf (n:=n) (H:=H) (p:=(p:Int)) (v:=fun k=>((v k:Nat):Int)) om i;have r:∃j,j<n/\d≠j/\wL n H p v j≠0:=by
  refine dW fun s=>?_;have C:∀j,j<n->j≠d->wL n H p v j=0:=fun j u a=>dW fun G=>s ⟨j,u,aj a,G⟩;have D:(p:Int)∣aq n fun i=>wL n H p v i*(v i:Nat):=FA o;rw[cJ d f (fun i I a=>by rw[C i I a];simp),m,iN]at D
  have E:=fm D;rw[dH (b d).1 (b d).2]at E;by_cases e:piv=d
  .rw[e]at c;exact c E
  .exact c (C piv g e)
 obtain⟨j,u,a,J⟩:=r;obtain⟨iv,w⟩:=Qi y (x:=wL n H p v j) (by have:=b j;omega) (b j).2
 obtain⟨t',K⟩:=A d f;exact P2 (p:=(p:Int)) om u f a w (t:=t') (by rw[m]at K;omega) (Lc o A) h.tri q
def tN.gram(c:ge n H)(h:tN n p H v B){i j:Nat}(d:i<n)(e:j<n):(p:Int)*p∣mm n (mm n (fun i j=>B j i) H) B i j:=by
 obtain⟨l,f,b,a⟩:=h.lat;rw[qv];exact FH c.red.pd.sym (fun i _=>Ad f i) b ((a _).1 (fC.col d)) ((a _).1 (fC.col e))
def qU(n p:Nat)(H B:aH):aH:=fun i j=>if i<n/\j<n then mm n (mm n (fun i j=>B j i) H) B i j/((p:Int)*p)else 0
def tN.eq(c:ge n H)(h:tN n p H v B){i j:Nat}(a:i<n)(b:j<n):mm n (mm n (fun i j=>B j i) H) B i j=(p:Int)*p*qU n p H B i j:=by
 unfold qU;rw[ah ⟨a,b⟩,gW (h.gram c a b)]
def tN.gent(g:ge n H)(k:p∈cw)(h:tN n p H v B){i j:Nat}(d:i<n)(f:j<n):(qU n p H B i j).natAbs<=853258050:=by
 have e:=h.eq g d f;rw[qv]at e;have l:=RR k;have o:=Ka (H:=H) (a:=118098) (b:=p*p) (c:=p*p) g.five (fun i j d f=>by have:=g.ent i j d f;omega) (u:=fun r=>B r i) (v:=fun r=>B r j) (fun r m=>by have:=h.ent k m d;rw[<-bF]at this;omega) (fun r m=>by have:=h.ent k m f;rw[<-bF]at this;omega)
 rw[e,cH,<-bF,iG]at o;rw[<-bF]at l;have q:p*p*(qU n p H B i j).natAbs<=p*p*(25*(118098*(p*p))):=by
  have:25*(118098*(p*p)*(p*p))=p*p*(25*(118098*(p*p))):=by grind
  omega
 have s:=sv q om;omega
def tN.qf(g:ge n H)(s:p∈cw)(G:ll n p H v)(h:tN n p H v B):QF n (qU n p H B):=by
 have I:=RR s;have A:=g.red.pd.sym;have C:∀r c,r<c->c<n->B r c=0:=fun r c k t=>(h.tri r om).1 c k t;have D:∀r,r<n->0<B r r:=fun r J=>(h.tri r J).2;have E:∀i j,i<n->j<n->mm n (mm n (fun i j=>B j i) H) B i j=p*p*qU n p H B i j:=fun i j d l=>h.eq g d l;have K:=NS (p:=(p:Int)) (by have:=p6 s;omega) C D (h.det s G) E
 have o:∀i j,i<n->j<n->(qU n p H B i j).natAbs<=246591576450:=fun i j d l=>by have:=h.gent g s d l;omega
 generalize qU n p H B=Q at *;have w:∀i j,i<n->j<n->(p:Int)*p*Q i j=jy n H (fun r=>B r i) (fun r=>B r j):=fun i j d l=>by rw[<-E i j d l,qv]
 refine⟨Pd.of_pos (fun a b m u=>?_) fun x ⟨j,l,y⟩=>?_,g.one,g.five,o,by rw[K];exact g.small⟩
 .refine cL (show(p:Int)*p≠0 by omega) ?_
  rw[w a b m u,w b a u m,jn A]
 .obtain⟨i,d,z,q⟩:=FM (P:=fun j=>x j≠0) ⟨j,l,y⟩;have e:(p:Int)*p*jy n Q x x=jy n H (fun r=>aq n (fun a=>x a*B r a)) (fun r=>aq n (fun a=>x a*B r a)):=by
   rw[uT n H x (fun a r=>B r a)];unfold jy;rw[<-df];refine aB fun a m=>?_;have t:=F9 A x (fun a r=>B r a) (fun r=>B r a) n;unfold jy at t;rw[t,ck (x a),<-fK,<-df];congr 1;refine aB fun b u=>?_;have F:=w a b m u;unfold jy at F;rw[<-F];grind
  have L:(fun r=>aq n (fun a=>x a*B r a)) i≠0:=by
   show aq n (fun a=>x a*B i a)≠0;rw[cJ i d (fun a m M=>?_)]
   .intro N;rcases fZ.1 N with k|k
    .exact z k
    .have:=D i d;omega
   .rcases aF a i with k|k
    .have:x a=0:=dW fun O=>q a k O;rw[this,kU]
    .rw[C i a om m,jZ]
  have f:=g.red.pd.bil_pos (x:=fun r=>aq n (fun a=>x a*B r a)) d L;rw[<-e]at f;exact qm om f

def FoM(S:St)(bp bh:Nat)(gh:Nat->Nat)(bu:Nat)(gu:Nat->Nat)(n m K i:Nat)(A0:aH):Prop :=
 ∃H1 U1,jF S bp bh gh bu gu n m H1 U1/\Kp n m (n+m) K i A0 (qV n H1 U1)
def ReM(S:St)(bp bh:Nat)(gh:Nat->Nat)(bu:Nat)(gu:Nat->Nat)(n m K i s:Nat)(A0:aH):Prop :=
 ∃H1 U1,jF S bp bh gh bu gu n m H1 U1/\Rt n m (n+m) K i s A0 (qV n H1 U1)
def FormQ(S:St)(n m K:Nat)(A0:aH)(r:AV):Prop:=∃(bh:Nat) (gh:Nat->Nat) (bu:Nat) (H1 U1:aH),r=.tup [.sl 1 bh 0 n,.sl 1 bu 0 m,.bool true]/\dE S bh gh n m H1/\Kp n m (n+m) K n A0 (qV n H1 U1)
def Rt.bdd{N K s:Nat}{A0:aH}(h:Rt n m N K i s A0 A):Bd N m (2*K+4) A:=fun r k a b=>by
 have c:=h.bd r k a b;have d:=sc (om:K<=2*K+4)
 split at c<;>omega
def vM(n m K:Nat)(A:aH)(h1:1<=n)(hn:n<=8)(N:n<=m)(hm:m<=9)(P:kk K (m*n)<=400000000)(hb:Bd (n+m) m K (qV n A kR))(hf:∀i,i<n->∃M,M≠0/\fC n m (qV n A kR) (gR M i)):cZ 125 [aU n m A] St.none (fun r S'=>FormQ S' n m K (qV n A kR) r):=by
 refine jI func125 ntmps125 results125 ?_;have hK0:K<=400000000:=a9 (qt (k:=K) (om:0<=m*n)) P
 simp -dsimp only[go_sem,aa];refine(og n m A h1 om om om).call ?_;simp -dsimp only[go_sem,aa];refine(rU m om om _ _ (cY _ _)).mono ?_;rintro r S1 ⟨bu,gu,rfl,Q⟩;simp -dsimp only[go_sem,aa];refine(yY n m A (K+1) om om om (fun i j x R=>hb.hn x R) om _ _ (cY _ _)).mono ?_;rintro r S2 ⟨bh,gh,rfl,B⟩;simp only[go_sem,a8,aR,cG,cP];refine aG.intro fun c f=>?_;have C:FoM (S2.upd c ⟨183,1,2,fun j=>[AV.sl 1 bh 0 n,.sl 1 bu 0 m].getD j .any⟩) c bh gh bu gu n m K 0 (qV n A kR):=by
  have y:dE S2 bu gu m m kR:=Q.1.ext B.2.1;refine⟨A,kR,⟨⟨_,cp,rfl,rfl⟩,B.1.stp (aO (bG.fresh B.1.outer f)) fun i x=>aO (bG.fresh (B.1.row i x) f),y.stp (aO (bG.fresh y.outer f)) fun i x=>aO (bG.fresh (y.row i x) f),fun i j x R e=>?_⟩,Kp.init hb⟩;have e1:=B.2.2.2 i x;obtain⟨_,e2,_⟩:=Q.1.row j R;rw[e,e2]at e1;cases e1
 generalize S2.upd c ⟨183,1,2,fun j=>[AV.sl 1 bh 0 n,.sl 1 bu 0 m].getD j .any⟩=S3 at C ⊢;clear Q B f;refine aI (fun O S=>∃i:Nat,i<=n/\FoM S c bh gh bu gu n m K i (qV n A kR)/\O 0=aU n m A/\O 6=.int .i64 m/\O 10=.ptr 1 c 0/\O 11=.int .i64 i/\O 12=.int .i64 i) (fun O S=>n-co (O 11)) ?_ ?_
 .simp only[go_sem];exact⟨0,om,C,rfl,rfl⟩
 .clear C;rintro O S ⟨i,x,C,e0,e6,E,F,G⟩;by_cases b:i<n
  .have d:i<m:=om
   obtain⟨H1,U1,l,D⟩:=C;have T:kk (kk K (m*i)) m<=400000000:=by
    rw[Ia];refine a9 (qt ?_) P;have:=aL m b;rw[eA]at this;omega
   have U:2*kk (kk K (m*i)) (m-1-i)+4<=kk K (m*(i+1)):=by
    rw[Ia];show kk K (m*i+(m-1-i)+1)<=_;refine qt ?_;rw[eA];omega
   have hK3:kk K (m*(i+1))<=400000000:=a9 (qt (aL m b)) P;simp -dsimp only[*,go_sem,aa,aU];refine(Al S c bh bu n m (kk K (m*i)) i i gh gu (qV n H1 U1) hn hm b d T ⟨H1,U1,l,D.ga,D.bd⟩).mono ?_;rintro r S' ⟨H2,U2,o,hg,z,h0⟩;have V:=D.re hg z b N (hf i b) (by rw[jd b];exact h0)
   have p:0<H2 i i:=by have:=(V.tri i om).2;rwa [jd b]at this
   generalize hKd:kk (kk K (m*i)) (m-1-i)=Kd at *;obtain⟨g,W,X,Y⟩:=o.pair;obtain⟨Z,u1,J⟩:=o.h.outer;obtain⟨L,u2,H⟩:=o.h.row i b;have x1:Z i=.sl 2 (gh i) 0 m:=J i b;have x2:L i=.big (H2 i i):=H i d;simp -dsimp only[*,go_sem,aa];refine(ka (z.hn b d) om).call ?_;simp only[*,go_sem,aU,dq p,show((1:Int)==0)=false from rfl];have u:ReM S' c bh gh bu gu n m Kd i 0 (qV n A kR):=⟨H2,U2,o,V⟩;clear u1 J u2 H x1 x2 W X Y o V p z hg h0 l D;refine aI (fun O S=>∃s:Nat,s<=i/\ReM S c bh gh bu gu n m Kd i s (qV n A kR)/\O 0=aU n m A/\O 6=.int .i64 m/\O 10=.ptr 1 c 0/\O 11=.int .i64 i/\O 12=.int .i64 i/\O 13=.int .i64 s) (fun O S=>i-co (O 13)) ?_ ?_
   .simp only[*,go_sem,aU];exact⟨0,om,u,rfl⟩
   .clear u e0 e6 E F G;rintro O S ⟨s,hs,u,e0,e6,E,F,G,e13⟩;obtain⟨H3,U3,q,v⟩:=id u;have t:=v.bdd;by_cases hsi:s<i
    .obtain⟨g,W,X,Y⟩:=q.pair;obtain⟨Z,u1,J⟩:=q.h.outer;obtain⟨L,u2,H⟩:=q.h.row i b;have w:s<m:=om
     have x1:Z i=.sl 2 (gh i) 0 m:=J i b;have x2:L i=.big (H3 i i):=H i d;have x3:L s=.big (H3 i s):=H s w;have p:0<H3 i i:=by have:=(v.tri i om).2;rwa [jd b]at this
     have hq:nb (H3 i s/H3 i i) (2*Kd+4+1):=nb.of_le (jL ..) (t.hn b w);simp -dsimp only[*,go_sem,aU];refine bD 24 kr ?_
     simp -dsimp only[*,go_sem,aa];refine⟨_,(oM (t.hn b w) (t.hn b d) om om).pure',?_⟩
     try simp -dsimp only[go_sem]
     refine(pG S c bh bu n m s i gh gu H3 U3 _ (2*Kd+4+1) hn hm w d om hq (fun a k ha hk=>t.hn ha hk) (fun a k ha hk=>t.un ha hk) q).mono ?_;intro r S4 hP4;have I:=v.step hsi d om;rw[jd b,jd b,<-QS]at I;simp only[*,go_sem,aU,aS (om:s<1000000),co]
     exact⟨⟨s+1,om,⟨_,_,hP4,I⟩,rfl⟩,om⟩
    .obtain rfl:s=i:=om
     simp only[*,go_sem,aU,aS (om:s<1000000),co]
     exact⟨⟨s+1,om,⟨H3,U3,q,v.fin U⟩,rfl,rfl⟩,om⟩
  .obtain rfl:i=n:=om
   obtain⟨H1,U1,l,D⟩:=C;obtain⟨g,W,X,Y⟩:=l.pair;simp -dsimp only[*,go_sem,aa,aU];refine bD 11 kr ?_
   simp only[*,go_sem,aa];exact⟨bh,gh,bu,H1,U1,rfl,l.h,D⟩
def KH(n m c k:Nat)(H:aH)(h:n<=8)(l:k<=8000000000)(b:c<m)(d:∀i j,i<n->j<m->nb (H i j) k)(f:∀i,i<n->i<c->H i c=0)(g:c<n->H c c≠0):PF 73 [aU n m H,.int .i64 c] (.int .i64 ((min c n:Nat):Int)):=by
 refine jo func73 ntmps73 results73 ?_;simp only[go_sem,aU];refine aI (fun O S=>∃i:Nat,i<=min c n/\O 0=aU n m H/\O 1=.int .i64 c/\O 7=.int .i64 n/\O 8=.int .i64 i) (fun O S=>n-co (O 8)) ?_ ?_
 .simp only[go_sem,aU];exact⟨0,om,rfl⟩
 .rintro O S ⟨i,o,p,q,r,s⟩;by_cases a:i<n
  .simp -dsimp only[*,go_sem,aa,aU,bC];refine(ka (d i c a b) om).call ?_;by_cases e:i=c
   .subst e;have t:(H i i != 0)=true:=by simpa using g a
    simp only[*,go_sem,aU,bC,zL];rw[(om:min i n=i)]
    exact VR.mf rfl
   .simp only[*,go_sem,aU,bC,f i a om,tf,show((0:Int) != 0)=false from rfl,aS (om:i<1000000),co]
    exact⟨⟨i+1,om,rfl⟩,om⟩
  .simp only[*,go_sem,aa,aU];rw[(om:min c n=n)]
   exact VR.mf rfl
def KN(a:n<=m)(h:K (.sl 2 b 0 n)):kG 59 (.sl 2 b 0 m) ab (some (.int .i64 n)) ab K:=by
 refine⟨rfl,0,n,?_⟩;simp;exact⟨a,h⟩
structure CutM(S:St)(b:Nat)(g:Nat->Nat)(n m i:Nat)(A:aH):Prop where
 outer:bG S b 59 1 n (fun r=>.sl 2 (g r) 0 (if r<i then n else m))
 row:∀r,r<n->bG S (g r) 50 2 m (fun k=>.big (A r k))
def yK{U:aH}(x:ig):fC n m (qV n A U) x↔fC n m A x:=by
 have e:∀i,i<n->∀c:ig,aq m (fun j=>qV n A U i j*c j)=aq m (fun j=>A i j*c j):=fun i a c=>aB fun j _=>by rw[jd a]
 exact⟨fun⟨c,b⟩=>⟨c,fun i a=>by rw[b i a,e i a]⟩,fun⟨c,b⟩=>⟨c,fun i a=>by rw[b i a,e i a]⟩⟩
def I6(n K:Nat)(A B:aH)(h1:1<=n)(R:n<=8)(T:kk K ((n+1)*n)<=400000000)(V:Bd (n+(n+1)) (n+1) K (qV n A kR))(W:∀i,i<n->∃M,M≠0/\fC n (n+1) A (gR M i))
  (hT:wU n n B) (b:∀c j,c<n->j<c->0<=B c j/\B c j<B c c) (X:∀y,fC n n B y↔fC n (n+1) A y):PF 62 [aU n (n+1) A] (.tup [aU n n B,.bool true]):=by
 refine jo func62 ntmps62 results62 ?_;have C:kk K ((n+1)*n)+1<=8000000000:=om
 simp -dsimp only[go_sem,aa];refine(vM n (n+1) K A h1 R om om T V fun i d=>by
  obtain⟨M,h,h'⟩:=W i d;exact⟨M,h,(yK _).2 h'⟩).mono ?_
 rintro r S1 ⟨bh,gh,bu,H,U,rfl,f,p⟩;simp only[go_sem];have s:wU n n H:=fun r b=>⟨fun j D Y=>by have:=(p.tri r b).1 j D om;rwa [jd b]at this,by have:=(p.tri r b).2;rwa [jd b]at this⟩
 have hz:∀r c,r<n->r<c->c<n+1->H r c=0:=fun r c b D Y=>by have:=(p.tri r b).1 c D Y;rwa [jd b]at this
 have E:∀i j,i<n->j<n->H i j=B i j:=by
  refine Cv s hT (fun c j l F=>by have:=p.red c j l F;rwa [jd l,jd l]at this) b fun y=>?_
  rw[X y,<-yK (A:=A) (U:=kR) y,<-p.cut y];have e:∀i,i<n->∀c:ig,aq n (fun j=>qV n H U i j*c j)=aq n (fun j=>H i j*c j):=fun i d c=>aB fun j _=>by rw[jd d]
  exact⟨fun⟨c,l⟩=>⟨c,fun i d=>by rw[l i d,e i d]⟩,fun⟨c,l⟩=>⟨c,fun i d=>by rw[l i d,e i d]⟩⟩
 have G:∀i j,i<n->j<n+1->nb (H i j) (kk K ((n+1)*n)+1):=fun i j d F=>p.bd.hn d F;generalize kk K ((n+1)*n)+1=Kn at *;clear p V W X b T;have t:0<n:=om
 refine aI (fun O S=>∃c:Nat,c<=n/\dE S bh gh n (n+1) H/\O 4=.sl 1 bh 0 n/\O 7=.int .i64 c) (fun O S=>n-co (O 7)) ?_ ?_
 .simp only[go_sem];exact⟨0,om,f,rfl⟩
 .clear f;rintro O S ⟨c,l,f,v,w⟩;obtain⟨I,J,u⟩:=id f.outer;obtain⟨g2,Z,v2⟩:=id (f.row 0 t);have x:I 0=.sl 2 (gh 0) 0 (n+1):=u 0 t;have q:c<n+1:=om
  have m:=KH n (n+1) c Kn H R C q G (fun i d L=>hz i c d L q) (fun h=>by have:=(s c h).2;omega)
  by_cases g:c<n
  .simp -dsimp only[*,go_sem,aa,show((0:Int)<(n:Int)) by omega,oa]
   refine m.spec (fH.mat f (fH.same fH.nil)) ?_;rw[(om:min c n=c)]
   simp only[go_sem,v,w,x,g,q,aS (om:c<1000000),co]
   exact⟨⟨c+1,om,f,rfl⟩,om⟩
  .obtain rfl:c=n:=om
   simp -dsimp only[*,go_sem,aa,show((0:Int)<(c:Int)) by omega,oa]
   refine m.spec (fH.mat f (fH.same fH.nil)) ?_;rw[(om:min c c=c)]
   simp only[*,go_sem,oa,Pa,show(((c:Nat):Int)==0)=false by simp;omega]
   have o:CutM S bh gh c (c+1) 0 H:=⟨f.outer.congr fun r _=>by simp,f.row⟩
   have N:∀r,r<c->bh≠gh r:=fun r b=>f.outer_ne b;clear f J u Z v2 x;refine aI (fun O S=>∃i:Nat,i<=c/\CutM S bh gh c (c+1) i H/\O 4=.sl 1 bh 0 c/\O 7=.int .i64 c/\O 36=.int .i64 c/\O 37=.int .i64 i) (fun O S=>c-co (O 37)) ?_ ?_
   .simp only[*,go_sem];exact⟨0,om,o,rfl⟩
   .clear o v w;rintro O S ⟨i,d,o,v,w,P,Q⟩;obtain⟨I,J,u⟩:=id o.outer;by_cases g:i<c
    .have x:I i=.sl 2 (gh i) 0 (c+1):=(u i g).trans sm
     obtain⟨g2,Z,v2⟩:=id (o.row i g);simp only[go_sem,aa,v,w,P,Q,g,J,x,aS (om:i<1000000),co,fX,cV]
     refine KN om ?_;simp only[go_sem];refine⟨⟨i+1,om,⟨bG.here fun a z=>?_,fun a z=>bG.upd (o.row a z) (aj (N a z)) _⟩,rfl⟩,om⟩
     simp only[bR];by_cases e:a=i
     .rw[ah e,e,ah om]
     .rw[af e,u a z];dsimp only;by_cases e2:a<i
      .rw[ah e2,ah om]
      .rw[af e2,af om]
    .obtain rfl:i=c:=om
     simp only[*,go_sem,aa];refine VR.tup2 (VR.sl (o.outer.congr (g':=fun r=>.sl 2 (gh r) 0 i) fun r b=>by simp[b]) om fun r b=>?_) (VR.mf rfl)
     rw[az];refine VR.sl ((o.row r b).congr (g':=fun k=>.big (if k<i then B r k else H r k)) fun k _=>by
      by_cases e:k<i
      .simp only[e,aK];rw[E r k b e]
      .simp only[e,aM]) om fun k hk=>?_
     rw[az,ah hk];exact VR.mf rfl

def I7(n K:Nat)(A:aH)(k:1<=n)(l:n<=8)(m:kk K ((n+1)*n)<=400000000)(o:Bd (n+(n+1)) (n+1) K (qV n A kR))(p:∀i,i<n->∃M,M≠0/\fC n (n+1) A (gR M i)) :
  (∃B,wU n n B/\(∀c j,c<n->j<c->0<=B c j/\B c j<B c c)/\∀y,fC n n B y↔fC n (n+1) A y)∨cZ 62 [aU n (n+1) A] St.none (fun _ _=>False):=by
 by_cases g:∃B,wU n n B/\(∀c j,c<n->j<c->0<=B c j/\B c j<B c c)/\∀y,fC n n B y↔fC n (n+1) A y
 .exact bW g
 refine bQ (jI func62 ntmps62 results62 ?_);simp -dsimp only[go_sem,aa];refine(vM n (n+1) K A k l om om m o fun i a=>by
  obtain⟨M,h,h'⟩:=p i a;exact⟨M,h,(yK _).2 h'⟩).mono ?_
 rintro r S1 ⟨bh,gh,bu,H,U,rfl,t,d⟩;refine absurd ⟨H,fun r f=>⟨fun j q u=>?_,?_⟩,fun c j b s=>?_,fun y=>?_⟩ g
 .have:=(d.tri r f).1 j q om;rwa [jd f]at this
 .have:=(d.tri r f).2;rwa [jd f]at this
 .have:=d.red c j b s;rwa [jd b,jd b]at this
 .rw[<-yK (A:=A) (U:=kR) y,<-d.cut y];have e:∀i,i<n->∀c:ig,aq n (fun j=>qV n H U i j*c j)=aq n (fun j=>H i j*c j):=fun i a c=>aB fun j _=>by rw[jd a]
  exact⟨fun⟨c,b⟩=>⟨c,fun i a=>by rw[b i a,e i a]⟩,fun⟨c,b⟩=>⟨c,fun i a=>by rw[b i a,e i a]⟩⟩
def J7(g:p∈cw)(b:0<a)(h:a<p):(bz a p).1=1:=by
 obtain⟨i,j⟩:=Iw p a p (ae p);have c:=(D0 p a p (ae p) (bW b)).1;have key:∀q,q∈cw->∀x,x<q->0<x->Nat.gcd x q=1:=by decide
 have k:=key p g a h b;have d:=oI.2 i;have e:=oI.2 j;rw[iG]at d e;have f:=Nat.dvd_gcd d e;rw[k]at f;have:=BM om f;omega
def yr(a p:Nat)(k:p∈cw)(l:0<a)(A:a<p):PF 61 [.int .i64 a,.int .i64 p] (.tup [.int .i64 ((bz a p).2.1%p),.bool true]):=by
 have n:=p6 k;refine jo func61 ntmps61 results61 ?_;simp -dsimp only[go_sem,aa];refine(Lj a p om om).call ?_;rw[J7 k l A];simp only[go_sem,show((1:Int) != 1)=false from rfl];refine aI (fun O S=>∃(x y:Nat) (u na b nb:Int),OV a p x y u b na nb/\O 1=.int .i64 p/\O 6=.int .i64 x/\O 7=.int .i64 y/\O 8=.int .i64 u/\O 9=.int .i64 na) (fun O S=>co (O 7)) ?_ ?_
 .simp only[go_sem];exact⟨a,p,1,0,0,1,OV.init (bW l),rfl,rfl,rfl,rfl⟩
 .rintro O S ⟨x,y,u,na,b,nb,c,o,r,s,t,v⟩;have B:=c.lx;have C:=c.ly;have D:=c.la;have w:=c.lna;by_cases e:y=0
  .subst e;have E:=c.fin;simp -dsimp only[go_sem,aa,o,r,s,t,v,show(((0:Nat):Int) != 0)=false from rfl];refine(Ep (a:=u) (m:=(p:Int)) om om).call ?_;simp only[go_sem];rw[E];exact VR.tup2 (VR.mf rfl) (VR.mf rfl)
  .have z:=c.step e;have f:(((y:Nat):Int) != 0)=true:=by simp;omega
   have d:¬(((y:Nat):Int)=0):=om
   have F:Int.tdiv (x:Int) (y:Int)=((x/y:Nat):Int):=(VM x y).symm;have g:=dh x (iF e);have G:=iz x y;have h:=dz x y;have H:=z.lna;have i:=(tC (q:=((x/y:Nat):Int)) (cO _) c.ga).1;rw[iG]at i;have I:(((x/y:Nat):Int)*na).natAbs=x/y*na.natAbs:=by rw[cH,iG]
   have J:IntKind.i64.wrap ((x/y:Nat):Int)=((x/y:Nat):Int):=by
    have K:(0:Int)<=((x/y:Nat):Int):=cO _;have L:((x/y:Nat):Int)<=x:=l7.2 G;generalize ((x/y:Nat):Int)=zz at *;exact i64_in om om
   have j:((x/y:Nat):Int)*(y:Int)=((x:Nat):Int)-((x%y:Nat):Int):=by
    have M:((y*(x/y)+x%y:Nat):Int)=(x:Int):=by rw[h]
    rw[eM,bF,ck]at M;omega
   have N:IntKind.i64.wrap (((x/y:Nat):Int)*(y:Int))=((x:Nat):Int)-((x%y:Nat):Int):=by rw[j];exact i64_in om om
   have P:IntKind.i64.wrap (((x:Nat):Int)-(((x:Nat):Int)-((x%y:Nat):Int)))=((x%y:Nat):Int):=by
    rw[show((x:Nat):Int)-(((x:Nat):Int)-((x%y:Nat):Int))=((x%y:Nat):Int) by omega];exact i64_in om om
   have Q:IntKind.i64.wrap (((x/y:Nat):Int)*na)=((x/y:Nat):Int)*na:=i64_in om om;have R:IntKind.i64.wrap (u-((x/y:Nat):Int)*na)=u-((x/y:Nat):Int)*na:=i64_in om om;simp only[go_sem,aa,o,r,s,t,v,f,d,F,J,N,P,Q,R,co];exact⟨⟨y,x%y,na,u-((x/y:Nat):Int)*na,nb,_,z,rfl,rfl,rfl,rfl⟩,g⟩
def TJ(b:p∈cw)(c:0<a)(d:a<p):(p:Int)∣(bz a p).2.1%p*a-1:=by
 have e:=Iv p a p (ae p);rw[J7 b c d]at e;have f:=eB (bz a p).2.1 p;generalize (bz a p).2.1=u at *;generalize (bz a p).2.2=w at *;refine⟨-(u/p)*a-w,?_⟩;generalize u/(p:Int)=q at *;generalize u%(p:Int)=r at *;subst f
 grind

def DY{a b:Int}(h:a≠b):(lV a b != 0)=true:=by
 unfold lV;split
 .simp
 .split
  .simp
  .exfalso;omega
def Bo(n:Nat)(A:aH)(o:Nat)(β:Bool)(k:n<=16)(p:∀i j,i<n->j<n->nb (A i j) o)(v:o<=10000000)(hβ:β=true↔∀a b,a<n->b<n->A a b=A b a):PF 116 [aU n n A] (.bool β):=by
 refine jo func116 ntmps116 results116 ?_;simp only[go_sem,aU,bC];refine aI (fun O S=>∃i:Nat,i<=n/\(∀a b,a<i->b<a->A a b=A b a)/\O 0=aU n n A/\O 6=.int .i64 n/\O 7=.int .i64 i) (fun O S=>n-co (O 7)) ?_ ?_
 .simp only[go_sem,aU,bC];exact⟨0,om,fun a b l k=>om,rfl⟩
 .rintro O S ⟨i,w,d,q,r,s⟩;by_cases f:i<n
  .simp only[*,go_sem,aU,bC];refine aI (fun O S=>∃j:Nat,j<=i/\(∀b,b<j->A i b=A b i)/\O 0=aU n n A/\O 3=.int .i64 i/\O 4=.int .i64 j/\O 6=.int .i64 n/\O 7=.int .i64 i) (fun O S=>i-co (O 4)) ?_ ?_
   .simp only[*,go_sem,aU,bC];exact⟨0,om,fun b l=>om,rfl⟩
   .rintro O S ⟨j,x,c,q,y,z,r,s⟩;by_cases t:j<i
    .have g:j<n:=om
     simp -dsimp only[*,go_sem,aU,bC];refine bD 16 kr ?_
     simp only[*,go_sem,aa,aU,bC];refine⟨_,(nI (p i j f g) (p j i g f) om).pure',?_⟩;by_cases m:A i j=A j i
     .have u:lV (A i j) (A j i)=0:=by rw[m];exact sj _
      rw[u];simp only[go_sem,aS (om:j<1000000),co]
      refine⟨⟨j+1,om,fun b l=>?_,rfl⟩,om⟩
      by_cases e:b=j
      .rw[e];exact m
      .exact c b om
     .simp only[go_sem,DY m];rw[dD hβ fun h=>m (h i j f g)];exact VR.mf rfl
    .simp only[*,go_sem,aU,bC,aS (om:i<1000000),co]
     refine⟨⟨i+1,om,fun a b l k=>?_,rfl⟩,om⟩
     by_cases e:a=i
     .rw[e];exact c b om
     .exact d a b om k
  .simp only[*,go_sem,aU,bC];rw[hβ.2 fun a b l k=>by
    rcases dS a b with h|h|h
    .exact(d b a om h).symm
    .rw[h]
    .exact d a b om h]
   exact VR.mf rfl
def Gl(n:Nat)(A:aH)(c:Nat)(d:1<=n)(h:n<=8)(e:∀i j,i<n->j<n->nb (A i j) c)(f:c<=10000000)(g:¬∀a b,a<n->b<n->A a b=A b a):PF 56 [aU n n A] (.int .i64 4):=by
 refine jo func56 ntmps56 results56 ?_;simp -dsimp only[go_sem,aa];refine(pI n A d om).call ?_;simp -dsimp only[go_sem,aa,(om:¬((8:Int)<n))]
 refine(Bo n A c false om e f (by simpa using g)).call ?_
 simp only[go_sem,aa];exact VR.mf rfl
def Bs(n:Nat)(A:aH)(m:Nat)(β:Bool)(v:1<=n)(E:n<=8)(w:∀i j,i<n->j<n->nb (A i j) m)(F:m<=500000)(hβ:β=true↔kh A n):PF 58 [aU n n A] (.bool β):=by
 refine jo func58 ntmps58 results58 ?_;simp -dsimp only[go_sem,aa];refine(tD n A m v om w om).call ?_;simp only[go_sem,aU];refine aI (fun O S=>∃i:Nat,i<=n/\kh A i/\O 0=aU n n A/\O 3=bC n (fun k=>det (k+1) A)/\O 13=.int .i64 n/\O 14=.int .i64 i) (fun O S=>n-co (O 14)) ?_ ?_
 .simp only[go_sem,aU,bC];exact⟨0,om,⟨fun r x=>om,fun r _ x=>om⟩,rfl⟩
 .rintro O S ⟨i,G,d,B,C,o,p⟩;by_cases a:i<n
  .simp only[*,go_sem];refine aI (fun O S=>∃j:Nat,j<=i/\(∀b,b<j->iR A i b)/\O 0=aU n n A/\O 3=bC n (fun k=>det (k+1) A)/\O 5=.int .i64 i/\O 6=.int .i64 j/\O 13=.int .i64 n/\O 14=.int .i64 i) (fun O S=>n-co (O 6)) ?_ ?_
   .simp only[*,go_sem];exact⟨0,om,fun b v=>om,rfl⟩
   .clear B C o p;rintro O S ⟨j,H,c,B,C,I,J,o,p⟩;by_cases q:j<i
    .simp -dsimp only[*,go_sem,aa];refine(Gr n i j A m q a om w om).call ?_;by_cases u:iR A i j
     .have f:decide (2*((kZ A i j).natAbs:Int)<=det (j+1) A)=true:=by simpa [iR]using u
      rw[f];simp only[*,go_sem,aS (om:j<1000000),co]
      refine⟨⟨j+1,om,fun b v=>?_,rfl⟩,om⟩
      by_cases e:b=j
      .rw[e];exact u
      .exact c b om
     .have f:decide (2*((kZ A i j).natAbs:Int)<=det (j+1) A)=false:=by simpa [iR]using u
      rw[f];simp only[*,go_sem];rw[dD hβ fun h=>u (h.1 i a j q)];exact VR.mf rfl
    .have y:∀b,b<i->iR A i b:=fun b z=>c b om;have s:(0<i->iH A i)->kh A (i+1):=fun l=>⟨fun r x b z=>by
      by_cases e:r=i
      .subst e;exact y b z
      .exact d.1 r om b z,fun r t x=>by
      by_cases e:r=i
      .subst e;exact l t
      .exact d.2 r t om⟩
     by_cases t:0<i
     .have D:(0:Int)<(i:Int):=om
      simp -dsimp only[*,go_sem,aa];refine(CR n i A m t a om w om).call ?_;by_cases l:iH A i
      .have g:decide (3*(det i A*det i A)<=4*(det (i-1) A*det (i+1) A+kZ A i (i-1)*kZ A i (i-1)))=true:=by simpa [iH]using l
       rw[g];simp only[*,go_sem,aS (om:i<1000000),co]
       exact⟨⟨i+1,om,s fun _=>l,rfl⟩,om⟩
      .have g:decide (3*(det i A*det i A)<=4*(det (i-1) A*det (i+1) A+kZ A i (i-1)*kZ A i (i-1)))=false:=by simpa [iH]using l
       rw[g];simp only[*,go_sem];rw[dD hβ fun h=>l (h.2 i t a)];exact VR.mf rfl
     .obtain rfl:i=0:=om
      simp -dsimp only[*,go_sem,aa,show((0:Nat):Int)=0 from rfl,Pa,show IntKind.i64.wrap ((0:Int)+1)=1 from rfl,co];exact⟨⟨1,om,s (fun h=>om),rfl⟩,by simp;omega⟩
  .obtain rfl:i=n:=om
   simp only[*,go_sem];rw[hβ.2 d];exact VR.mf rfl
def qR(n:Nat)(H:aH)(β:Bool)(a:1<=n)(p:n<=5)(o:∀i j,i<n->j<n->-262144<H i j/\H i j<262144)(hβ:β=true↔(∀i j,i<n->j<n->H i j=H j i)/\vA H n):PF 21 [aC n n H] (.bool β):=by
 have c:∀i j,i<n->j<n->nb (H i j) 19:=fun i j l m=>by have:=o i j l m;unfold nb;omega
 refine jo func21 ntmps21 results21 ?_;simp -dsimp only[go_sem,aa];refine(vL _ n n H a om a om (fun i j l m=>by have:=o i j l m;unfold ta;omega)).mono ?_
 rintro _ S1 ⟨b,g,rfl,d⟩;simp -dsimp only[go_sem,aa];by_cases e:∀i j,i<n->j<n->H i j=H j i
 .obtain⟨β1,hβ1⟩:=jB (∀k,k<=n->0<det k H);refine(oW n H 19 a om c om e β1 hβ1).spec (fH.cons d.vr.va fH.nil) ?_
  cases β1 with
  | false =>
   simp -dsimp only[go_sem,aa];rw[dD hβ fun h=>by have:=hβ1.2 h.2.pos;cases this]
   exact VR.mf rfl
  | true =>
  simp -dsimp only[go_sem,aa];refine(Cd n H 19 a om c om).spec (fH.cons d.vr.va fH.nil) ?_;by_cases f:det n H<=10000
  .rw[show decide (det n H<=10000)=true by simpa using f]
   simp -dsimp only[go_sem,aa];obtain⟨β2,hβ2⟩:=jB (kh H n);refine(Bs n H 19 β2 a om c om hβ2).spec (fH.cons d.vr.va fH.nil) ?_;simp only[go_sem];rw[show β=β2 by
    cases β2 with
    | false=>exact dD hβ fun h=>by have:=hβ2.2 h.2.rows;cases this
    | true=>exact hβ.2 ⟨e,hβ1.1 rfl,f,hβ2.1 rfl⟩]
   exact VR.mf rfl
  .rw[show decide (det n H<=10000)=false by simpa using f]
   simp -dsimp only[go_sem,aa];rw[dD hβ fun h=>f h.2.dt];exact VR.mf rfl
 .refine(Gl n H 19 a om c om e).spec (fH.cons d.vr.va fH.nil) ?_;simp -dsimp only[go_sem,aa];rw[dD hβ fun h=>e h.1];exact VR.mf rfl

def Ba(n:Nat)(H:aH)(a:ge n H):PF 21 [aC n n H] (.bool true) :=
 qR n H true a.one a.five (fun i j b c=>by have:=a.ent i j b c;omega) ⟨fun _=>a.redB,fun _=>rfl⟩
def CG(n p:Nat)(H:aH)(a:ge n H)(b:jb (det n H) p)(c:p<=17):PF 74 [aC n n H,.int .i64 p,.bool false] (.int .i64 0):=by
 refine jo func74 ntmps74 results74 ?_;simp -dsimp only[go_sem,aa];refine(Ba n H a).call ?_;simp -dsimp only[go_sem,aa];refine(Et n p H a.one (by have:=a.five;omega) a.ent a.det b.1 om true (by simpa using⟨b.2.2.1,b.2.2.2⟩)).call ?_
 simp only[go_sem];exact VR.mf rfl
def Tj(S:St)(c i:Nat)(B:Int):Nat:=match S c with
 | some X=>match X.g i with
  | .int _ z=>(B-z).toNat
  | _=>0
 | ab=>0
def JP{B:Int}(h:bG S c 2 1 n (fun k=>.int .i64 (w k)))(a:i<n):Tj S c i B=(B-w i).toNat:=by
 obtain⟨g,b,d⟩:=h;unfold Tj;rw[b];show(match g i with|.int _ z=>(B-z).toNat|_=>0)=_
 rw[d i a]
def Gu(S:St)(d n p:Nat)(H:aH)(v:Nat->Nat)(E:ge n H)(hg:jb (det n H) p)(P:p∈cw)(C:ll n p H v)(Q:bG S d 2 1 n (fun k=>.int .i64 ((v k:Nat):Int))) :
  cZ 33 [aC n n H,.int .i64 p,.sl 1 d 0 n] S (fun r S'=>∃(c:Nat) (l:ig),r=.tup [.sl 1 c 0 n,.int .i64 0]/\bG S' c 2 1 n (fun k=>.int .i64 (l k))/\(∀i,i<n->(p:Int)∣l i-(v i:Nat))/\(∀i,i<n->0<=l i/\l i<=500)/\(p:Int)*p∣jy n H l l/\fM S S'):=by
 have h1:=E.one;have hn:=E.five;have f:3<=p/\p<=17:=by
  have R:=P;simp only[cw,ed,aR,jz]at R;omega
 have hpp:(p:Int)*p<=289/\9<=(p:Int)*p:=by
  rw[<-bF];have a:=aV f.2 f.2;have b:=aV f.1 f.1;omega
 have wpp:IntKind.i64.wrap ((p:Int)*p)=((p*p:Nat):Int):=by rw[bF];exact i64_in om om
 obtain⟨piv,F,G,T⟩:=Hm E hg P C;obtain⟨t,U,ht1,V⟩:=P6 E P C F G;have W:∀i,i<n->(0:Int)<=(v i:Nat)/\((v i:Nat):Int)<=16:=fun i M=>by have:=C.lt i M;omega
 refine jI func33 ntmps33 results33 ?_;simp -dsimp only[go_sem,aa];refine(CG n p H E hg f.2).call ?_;simp -dsimp only[go_sem,aa];refine(sN n p H (fun k=>v k) om om om (fun i M=>by have:=C.lt i M;omega)).spec (fH.three (VA.refl _ _) (VA.refl _ _) (ku.vr (show ku S d n (fun k=>v k)from Q)).va) ?_
 have hb:(iq (fun k=>(v k:Int)) n==1&&fB n H (fun k=>(v k:Int)) n%(p:Int)==0)=true:=by simp only[C.lead,C.norm];rfl
 simp only[go_sem,hb];refine dA (fun O S'=>∃i:Nat,i<=piv/\S=S'/\O 0=aC n n H/\O 1=.int .i64 p/\O 2=.sl 1 d 0 n/\O 9=.int .i64 i) (fun O S=>n-co (O 9)) ?_ ?_
 .simp only[go_sem];exact⟨0,om,rfl⟩
 rintro Q' I O _ ⟨i,M,rfl,s,x,J,D⟩;have m:i<n:=om
 simp -dsimp only[go_sem,aa,s,x,J,D];refine(Aj n p H (fun k=>v k) om om om).spec (fH.three (VA.refl _ _) (ku.vr (show ku S d n (fun k=>v k)from Q)).va (VA.refl _ _)) ?_;by_cases X:i<piv
 .have y:=T i X;unfold qT at y;simp only[*,go_sem,aW,dw,aS (om:i<1000000),co]
  exact⟨⟨i+1,om,rfl⟩,om⟩
 obtain rfl:i=piv:=om
 have Y:((aq n fun j=>H i j*((v j:Nat):Int))%(p:Int)==0)=false:=by
  have:=G;unfold qT at this;simpa using this
 simp only[go_sem,s,x,J,D,aW,m,Y];rw[I];simp -dsimp only[go_sem,J];refine CK Q om om ?_;intro c h' hc hh;simp only[go_sem,J];have hlv:∀(j:Int) k,k<n->iK v p i j k=if k=i then((v k:Nat):Int)+p*j else v k:=fun j k _=>rfl
 have q:∀j:Int,0<=j->j<=t->∀k,k<n->0<=iK v p i j k/\iK v p i j k<=305:=fun j h0 h1 k z=>by
  have a:0<=(p:Int)*j/\(p:Int)*j<=289:=by
   have:=da (show(p:Int)<=17 by omega) (om:j<=17) h0 om
   exact⟨dr om h0,om⟩
  have:=W k z;unfold iK;split<;>omega
 refine dA (fun O S'=>∃j:Int,0<=j/\j<=t/\O 0=aC n n H/\O 1=.int .i64 p/\O 9=.int .i64 i/\O 10=.sl 1 c 0 n/\bG S' c 2 1 n (fun k=>.int .i64 (iK v p i j k))/\fM S S') (fun _ S'=>Tj S' c i (v i+p*t)) ?_ ?_
 .simp only[*,go_sem];exact⟨0,om,U,bG.here fun k z=>by rw[hh k z];unfold iK;simp,(fM.refl S).upd hc _⟩
 clear s x J D I;rintro Q2 Z O S' ⟨j,K,A,s,x,D,o,N,hE⟩;simp -dsimp only[go_sem,aa,s,x,o,wpp];refine(Cr n (p*p) H (iK v p i j) om om om).spec (fH.three (VA.refl _ _) (ku.vr (show ku S' c n (iK v p i j)from N)).va (VA.refl _ _)) ?_;by_cases y:fB n H (iK v p i j) n%((p*p:Nat):Int)=0
 .have B:(fB n H (iK v p i j) n%((p*p:Nat):Int) != 0)=false:=by simpa using y
  simp only[go_sem,aa,s,x,D,o,B];rw[Z];simp only[go_sem,o];refine⟨c,rfl,iK v p i j,N,fun k _=>wy k,fun k z=>by have:=q j K A k z;omega,?_,hE⟩
  have:=cR y
  rwa [bF]at this
 .have B:(fB n H (iK v p i j) n%((p*p:Nat):Int) != 0)=true:=by simpa using y
  have hjt:j<t:=by
   rcases Vh A with h|h
   .exact h
   .subst h;rw[bF]at y;exact absurd (fm V) y
  obtain⟨g,u,w⟩:=id N;have x1:g i=.int .i64 (iK v p i j i):=w i m;have hb1:=q j K A i m;have wz:IntKind.i64.wrap (iK v p i j i+p)=iK v p i j i+p:=i64_in om om;simp only[go_sem,aa,s,x,D,o,B,u,x1,m,wz];have L:bG (S'.upd c ⟨2,1,n,bR g i (.int .i64 (iK v p i j i+p))⟩) c 2 1 n (fun k=>.int .i64 (iK v p i (j+1) k)):=bG.here fun k z=>by
   simp only[bR];by_cases e:k=i
   .subst e;rw[ah rfl];show AV.int IntKind.i64 (iK v p k j k+p)=AV.int IntKind.i64 (iK v p k (j+1) k);unfold iK;rw[ah rfl,ah rfl];congr 1;grind
   .rw[af e,w k z];show AV.int IntKind.i64 (iK v p i j k)=AV.int IntKind.i64 (iK v p i (j+1) k);unfold iK;rw[af e,af e]
  refine⟨⟨j+1,om,om,L,hE.upd hc _⟩,?_⟩
  rw[JP L m,JP N m];unfold iK;rw[ah rfl,ah rfl];have:=ca (om:j+1<=t) (show(0:Int)<=p by omega)
  have e5:(p:Int)*(j+1)=p*j+p:=by grind
  omega

def Nr{piv:Nat}{w:ig}(c:0<p)(a:piv<n)(b:(p:Int)∣u*w piv-1)(y:ig):fC n (n+1) (tB n p piv (fun j=>w j*u%p) l) y↔BO n p w l y:=by
 refine Dx (p:=(p:Int)) om a b (fun j _ _=>?_) y;have e:=eB (w j*u) p;obtain⟨t,d⟩:=b;generalize w j*u%(p:Int)=r at *;generalize hk:w j*u/(p:Int)=k at *;refine⟨w j*t-k*w piv,?_⟩;have:r=w j*u-p*k:=om
 subst this
 grind
def Nq{w:ig}(i:Nat):BO n p w l (gR ((p:Int)*p) i):=by
 refine⟨0,gR p i,fun k _=>?_,?_⟩
 .unfold gR;split<;>simp
 .refine jg fun k _=>cD ?_;unfold gR;split
  .exact iL _
  .exact jp _
def K6{piv:Nat}(a:p∈cw)(c:∀j,j<n->0<=q j/\q j<p)(d:∀i,i<n->0<=l i/\l i<=500){i j:Nat}(f:i<n):-500<=tB n p piv q l i j/\tB n p piv q l i j<=500:=by
 have b:=p6 a;have g:=RR a;unfold tB;by_cases e:j<n
 .rw[ah e];unfold gU;have h:=c j e;have k:=ca (om:q j<=p) (show(0:Int)<=p by omega)
  have m:=dr (show(0:Int)<=p by omega) h.1
  split
  .split<;>omega
  .split
   .omega
   .split<;>omega
 .rw[af e];have:=d i f;omega
def If(n p piv:Nat)(q l:ig)(j:Nat):aH:=fun a c=>if c=n then l a else if c<j then gU p piv q a c else 0
def NV{piv:Nat}(b:c<n+1):If n p piv q l n a c=tB n p piv q l a c:=by
 unfold If tB;by_cases e:c=n
 .rw[ah e,af om]
 .rw[af e,ah om,ah om]
def EA(S:St)(d n p:Nat)(H:aH)(v:Nat->Nat)(hF:ge n H)(hg:jb (det n H) p)(J:p∈cw)(hL:ll n p H v)(hn4:n<=4)(hd:bG S d 2 1 n (fun k=>.int .i64 ((v k:Nat):Int))) :
  cZ 24 [aC n n H,.int .i64 p,.sl 1 d 0 n] S (fun r S'=>∃b g B,r=.tup [.sl 1 b 0 n,.int .i64 0]/\tN n p H v B/\dZ S' b g n n B/\fM S S'):=by
 have h1:=hF.one;have hp17:=p6 J;have hpp:=RR J;obtain⟨piv,K,hs0,hsz⟩:=Hm hF hg J hL;refine jI func24 ntmps24 results24 ?_;simp -dsimp only[go_sem,aa];refine(Gu S d n p H v hF hg J hL hd).mono ?_;rintro _ S1 ⟨c,l,rfl,hC,hl,hlb,hln,hE1⟩;simp -dsimp only[go_sem,aa,bU];refine(Aj n p H (fun k=>v k) om om om).spec (fH.three (VA.refl _ _) (ku.vr (show ku S1 d n (fun k=>v k)from hE1.has hd)).va (VA.refl _ _)) ?_;have P:∀i,(aq n fun j=>H i j*((v j:Nat):Int))%(p:Int)=wL n H p v i:=fun i=>(yy n H p (fun k=>v k) i).symm;have t:wL n H p v piv≠0:=by rw[<-P];exact hs0
 have L:∀i,i<piv->wL n H p v i=0:=fun i hi=>by rw[<-P];exact hsz i hi
 have f:∀i,0<=wL n H p v i/\wL n H p v i<p:=fun i=>rf (n:=n) (H:=H) (p:=(p:Int)) (v:=fun k=>((v k:Nat):Int)) om i;simp only[P];have Q:=Nr (n:=n) (p:=p) (piv:=piv) (w:=wL n H p v) (l:=l) (u:=(bz (wL n H p v piv).toNat p).2.1%p) om K (by
  have h2:=TJ J (a:=(wL n H p v piv).toNat) (by have:=f piv;omega) (by have:=f piv;omega)
  rwa [dO (f piv).1]at h2)
 have hNB:∀B,wU n n B->(∀c j,c<n->j<c->0<=B c j/\B c j<B c c)->(∀y,fC n n B y↔BO n p (wL n H p v) l y)->tN n p H v B:=fun B b1 b2 W=>⟨b1,b2,⟨piv,K,t⟩,l,hl,hln,W⟩;generalize wL n H p v=w at t L f Q hNB ⊢;have hrec:PF 61 [.int .i64 (w piv),.int .i64 p] (.tup [.int .i64 ((bz (w piv).toNat p).2.1%p),.bool true]):=by
  have h2:=yr (w piv).toNat p J (by have:=f piv;omega) (by have:=f piv;omega)
  rwa [dO (f piv).1]at h2
 have hur:0<=(bz (w piv).toNat p).2.1%(p:Int)/\(bz (w piv).toNat p).2.1%(p:Int)<p:=⟨aT _ om,aP _ om⟩;generalize hu:(bz (w piv).toNat p).2.1%(p:Int)=u at *;have hqr:∀j,0<=w j*u%(p:Int)/\w j*u%(p:Int)<p:=fun j=>⟨aT _ om,aP _ om⟩;simp only[go_sem];refine aI (fun O S'=>∃i:Nat,i<=piv/\S1=S'/\O 1=.int .i64 p/\O 8=.sl 1 c 0 n/\O 10=.int .i64 n/\O 11=aW n w/\O 12=.int .i64 i) (fun O S=>n-co (O 12)) ?_ ?_
 .simp only[go_sem,aW];exact⟨0,om,rfl⟩
 rintro O _ ⟨i,hi,rfl,e1,e8,x,z,C⟩;have o:i<n:=om
 by_cases hip:i<piv
 .simp only[*,go_sem,aa,aW,L i hip,dw,aS (om:i<1000000),co]
  exact⟨⟨i+1,om,rfl⟩,om⟩
 obtain rfl:i=piv:=om
 simp -dsimp only[*,go_sem,aa,aW,show(w i==0)=false by simpa using t]
 refine hrec.call ?_;simp -dsimp only[*,go_sem,aW]
 repeat refine an ?_
 refine aG.intro fun bb fb=>?_;simp only[go_sem];refine aI (fun O S'=>∃a:Nat,a<=n/\O 1=.int .i64 p/\O 8=.sl 1 c 0 n/\O 10=.int .i64 n/\O 11=aW n w/\O 12=.int .i64 i/\O 13=.int .i64 u/\O 15=.sl 1 bb 0 n/\O 57=.int .i64 n/\O 58=.int .i64 a/\∃g',fL 29 2 1 S1 S' bb g' n (n+1) a (fun r k=>.int .i64 (If n p i (fun j=>w j*u%p) l 0 r k))) (fun O S=>n-co (O 58)) ?_ ?_
 .simp only[*,go_sem,aW];exact⟨0,om,rfl,fun _=>0,fL.init fb (fun _ _=>rfl) _ _⟩
 clear e1 e8 x z C;rintro O S' ⟨a,ha,e1,e8,x,z,C,R,T,e57,e58,g',q⟩;by_cases F:a<n
 .obtain⟨g4,u4,v4⟩:=id q.outer;have wn:IntKind.i64.wrap ((n:Int)+1)=((n+1:Nat):Int):=eF om om;simp -dsimp only[*,go_sem,aa]
  repeat refine an ?_
  refine aG.intro fun bd fd=>?_;have hdb:bb≠bd:=bG.fresh q.outer fd;simp -dsimp only[*,go_sem];have s:=q.push dc fd u4 (fun _=>.int .i64 0)
  generalize hgg:(fun r=>if r=a then bd else g' r)=gg at s
  generalize (S'.upd bd ⟨2,1,n+1,fun _=>.int .i64 0⟩).upd bb ⟨29,1,n,bR g4 a (.sl 1 bd 0 (n+1))⟩=S2 at s ⊢;clear q u4 v4 fd hdb hgg;obtain⟨X,u5,U⟩:=id s.outer;obtain⟨g6,V,v6⟩:=id (s.row a om);obtain⟨g7,u7,v7⟩:=id (s.ext.has hC);have x5:X a=.sl 1 (gg a) 0 (n+1):=(U a F).trans (ah om);have x7:g7 a=.int .i64 (l a):=v7 a F;refine bD 10 kr ?_
  simp only[go_sem,aa,e1,e8,x,z,C,R,T,e57,e58,F,u5,x5,V,u7,x7,aS (om:a<1000000),co]
  repeat refine an ?_
  refine⟨⟨a+1,om,rfl,gg,(s.put dc (om:a<a+1) V n (.int .i64 (l a))).congr fun r k _ _=>?_⟩,om⟩
  unfold If;by_cases e:r=a/\k=n
  .rw[ah e,ah e.2,e.1]
  .rw[af e];by_cases m:r=a
   .rw[ah m,af (fun h=>e ⟨m,h⟩),af om]
   .rw[af m]
 obtain rfl:a=n:=om
 have hwpp:IntKind.i64.wrap ((p:Int)*p)=(p:Int)*p:=i64_in om om;have hwn:IntKind.i64.wrap (0-(p:Int))=-(p:Int):=by rw[vT];exact i64_in om om
 have hp0:¬((p:Int)=0):=om
 simp only[*,go_sem,aa];refine aI (fun O S'=>∃j:Nat,j<=a/\O 1=.int .i64 p/\O 10=.int .i64 a/\O 11=aW a w/\O 12=.int .i64 i/\O 13=.int .i64 u/\O 15=.sl 1 bb 0 a/\O 17=.int .i64 j/\∃g',fL 29 2 1 S1 S' bb g' a (a+1) a (fun r k=>.int .i64 (If a p i (fun j=>w j*u%p) l j r k))) (fun O S=>a-co (O 17)) ?_ ?_
 .simp only[*,go_sem];exact⟨0,om,rfl,g',q⟩
 clear e1 e8 x z C R T e57 e58 q F;clear g' S' O;rintro O S' ⟨j,hj,e1,x,z,C,R,T,e17,g',q⟩;by_cases D:j<a
 .obtain⟨X,u5,U⟩:=id q.outer;obtain⟨g6,V,v6⟩:=id (q.row i o);have x5:X i=.sl 1 (g' i) 0 (a+1):=(U i o).trans (ah o);by_cases E:j=i
  .subst E;simp only[*,go_sem,aa,dw,(om:j<a+1),aS (om:j<1000000),co]
   refine⟨⟨j+1,om,rfl,g',(q.put dc D V j (.int .i64 ((p:Int)*p))).congr fun r k _ _=>?_⟩,om⟩
   unfold If gU;by_cases e:r=j/\k=j
   .rw[ah e,af (om:¬k=a),ah (om:k<j+1),ah e.2,ah e.1]
   .rw[af e];by_cases m:k=a
    .rw[ah m,ah m]
    .rw[af m,af m];by_cases e3:k<j
     .rw[ah e3,ah (om:k<j+1)]
     .rw[af e3];by_cases Y:k=j
      .rw[ah (om:k<j+1),ah Y,af (fun h=>e ⟨h,Y⟩)]
      .rw[af (om:¬k<j+1)]
  .obtain⟨g8,u8,v8⟩:=id (q.row j D);have x8:X j=.sl 1 (g' j) 0 (a+1):=(U j D).trans (ah D);simp -dsimp only[*,go_sem,aa,show(((j:Nat):Int)==((i:Nat):Int))=false by simp;omega,(om:j<a+1)]
   have I:=q.put dc D u8 j (.int .i64 (p:Int))
   generalize S'.upd (g' j) ⟨2,1,a+1,bR g8 j (.int .i64 (p:Int))⟩=S2 at I ⊢;clear u5 U V v6 x5 u8 v8 x8;obtain⟨X,u5,U⟩:=id I.outer;obtain⟨g6,V,v6⟩:=id (I.row i o);have x5:X i=.sl 1 (g' i) 0 (a+1):=(U i o).trans (ah o);have hwj:=f j;have hm1:=lq (a:=w j) (b:=u) (A:=17) (B:=17) om om;have hm0:0<=w j*u:=dr hwj.1 hur.1;have w1:IntKind.i64.wrap (w j*u)=w j*u:=i64_in om om;have w2:Int.tmod (w j*u) (p:Int)=w j*u%(p:Int):=aN hm0;have hq:=hqr j;have w3:IntKind.i64.wrap (w j*u%(p:Int))=w j*u%(p:Int):=i64_in om om;have hm2:=lq (a:=-(p:Int)) (b:=w j*u%(p:Int)) (A:=17) (B:=17) om om;have w4:IntKind.i64.wrap (-(p:Int)*(w j*u%(p:Int)))=-(p:Int)*(w j*u%(p:Int)):=i64_in om om;refine bD 17 kr ?_
   simp only[*,go_sem,aa,aW,(om:j<a+1),aS (om:j<1000000),co]
   refine⟨⟨j+1,om,rfl,g',(I.put dc o V j (.int .i64 (-(p:Int)*(w j*u%(p:Int))))).congr fun r k _ _=>?_⟩,om⟩
   unfold If gU;by_cases m:k=a
   .rw[af (om:¬(r=i/\k=j)),af (om:¬(r=j/\k=j)),ah m,ah m]
   .by_cases Y:k=j
    .subst Y;by_cases e5:r=i
     .have e7:¬i=k:=fun h=>E h.symm;simp[m,E,e5,e7,sE]
     .by_cases e6:r=k
      .simp[m,E,e6]
      .simp[m,E,e5,e6]
    .rw[af (fun h=>Y h.2),af (fun h=>Y h.2),af m,af m];by_cases e3:k<j
     .rw[ah e3,ah (om:k<j+1)]
     .rw[af e3,af (om:¬k<j+1)]
 .obtain rfl:j=a:=om
  have hN:=q.imat (A:=tB j p i (fun j=>w j*u%p) l) (fun r k _ N=>by rw[NV N])
  have hsm:∀r k,r<j->k<j+1->-500<=tB j p i (fun j=>w j*u%p) l r k/\tB j p i (fun j=>w j*u%p) l r k<=500:=fun r k Z N=>K6 J (fun j _=>hqr j) hlb Z;generalize tB j p i (fun j=>w j*u%p) l=G at *;simp -dsimp only[*,go_sem,aa];refine(Of_mf j (j+1) G h1 om om om (fun r k Z N=>by have:=hsm r k Z N;unfold ta;omega)).pf.spec (fH.one hN.1.vr.va) ?_
  simp -dsimp only[go_sem,aa];have hK:kk 9 ((j+1)*j)<=400000000:=by
   have h2:=qt (k:=9) (show(j+1)*j<=20 by have:=aV (om:j+1<=5) hn4;omega)
   have h3:=RW 9 20;have h4:(9+4)*2^20=13631488:=by decide
   omega
  have hb:Bd (j+(j+1)) (j+1) 9 (qV j G kR):=fun r k Z N=>by
   unfold qV;split
   .rename_i hr2;have:=hsm r k hr2 N;show(G r k).natAbs<=512;omega
   .unfold kR;split<;>simp
  have hf:∀r,r<j->∃M,M≠0/\fC j (j+1) G (gR M r):=fun r _=>⟨(p:Int)*p,om,(Q _).2 (Nq r)⟩
  rcases I7 j 9 G h1 om hK hb hf with⟨B,b1,b2,W⟩|hno
  .have hNb:=hNB B b1 b2 fun y=>(W y).trans (Q y);refine(I6 j 9 G B h1 om hK hb hf b1 b2 W).call ?_;simp -dsimp only[go_sem,aa];refine(su j j B h1 om h1 om (fun r k Z N=>by have:=hNb.ent J Z N;unfold iT;omega) _ _ (cY _ _)).mono ?_
   rintro _ S3 ⟨W,g3,rfl,hM3⟩;simp only[go_sem];exact⟨W,rfl,g3,B,hNb,hM3.1,(hE1.trans hN.2.1).trans hM3.2.1⟩
  .refine(hno.frame (cY _ _) (fun _ _ h=>h.elim)).mono ?_;rintro _ _ ⟨_,h,_⟩;exact h.elim

end Go.Proofs.YtdobfmlmenaajaaGreatDoor
