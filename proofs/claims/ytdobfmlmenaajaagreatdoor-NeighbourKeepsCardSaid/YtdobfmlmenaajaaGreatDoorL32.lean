/-
  Lemmas for NeighbourKeeps.
-/
import Derived.Test.YtdobfmlmenaajaaGreatDoorL30
namespace Go.Proofs.YtdobfmlmenaajaaGreatDoor
open Go.RowKit Tryz
open _root_.Classical renaming byContradiction→cU
open _root_.Int renaming le_of_lt→aS,mul_le_mul_of_nonneg_left→a8,mul_comm→bZ,eq_of_mul_eq_mul_left→cB,dvd_mul_of_dvd_right→cP,dvd_of_emod_eq_zero→de,emod_eq_of_lt→dS,natAbs_mul→eG,mul_assoc→eY,mul_emod→ft,lt_trichotomy→fF,mul_eq_zero→gK,mul_one→ie,mul_pos→iH,dvd_add→jk,dvd_refl→jV,emod_emod_of_dvd→kV,zero_mul→lc,mul_zero→ld
open _root_.List renaming not_mem_nil→aG,mem_cons→du
open _root_.Nat renaming le_refl→af,lt_or_ge→az,sub_self→bH,le_trans→bI,mul_le_mul→bK,sub_zero→c9
set_option maxHeartbeats 6400000
set_option maxRecDepth 4096
set_option linter.all false
variable{t:Int}{k n p piv:Nat}{f:Nat->Int}{v:Nat->Nat}{A B B' H:aB}{l:ik}
def jP(v:Nat->Nat)(p:Int)(piv:Nat)(t:Int):ik:=fun i=>if i=piv then((v i:Nat):Int)+p*t else v i
theorem Ke(a:p∈cM){x:Int}(b:0<x)(c:x<p):∃iv:Int,(p:Int)∣iv*x-1:=by
 obtain⟨_,h⟩:=Ba a b c;refine⟨Bc 20 p x 0 1%p,de ?_⟩;rw[Int.sub_emod,bZ,h,dS (show(0:Int)<=1 by omega) (by
  have:=a;simp only[cM,du,aG,or_false]at this;omega)]
 simp
theorem lH.char(l:p∈cM)(h:lH n p H v B) :
  ∃(piv:Nat) (t:Int),piv<n/\fC n H p (fun k=>v k) piv≠0/\(p:Int)*p∣jn n H (jP v p piv t) (jP v p piv t)/\∀y,gO n n B y↔ED n p (fC n H p (fun k=>v k)) (jP v p piv t) y:=by
 have m:3<=p/\p<=17:=by
  have f:=l;simp only[cM,du,aG,or_false]at f;omega
 obtain⟨piv,t,inv,b,o,r,g,e,i,s,u⟩:=h.ex;refine⟨piv,t,b,i,g,fun y=>?_⟩;have a:=r7 (n:=n) (H:=H) (p:=(p:Int)) (v:=fun k=>((v k:Nat):Int)) om;have c:=dS (a piv).1 (a piv).2;obtain⟨_,d⟩:=Ba l (x:=fC n H p (fun k=>v k) piv%p) (by rw[c];have:=a piv;omega) (by rw[c];exact(a piv).2)
 rw[<-e,c]at d;rw[u.members s y];refine Fl (p:=(p:Int)) om (piv:=piv) b (w:=fC n H p (fun k=>v k)) (q:=fun j=>fC n H p (fun k=>v k) j*inv%p) (inv:=inv) ?_ (fun j C z=>?_) y
 ·refine de ?_;rw[Int.sub_emod,bZ,d,dS (show(0:Int)<=1 by omega) om]
  simp
 ·refine de ?_;have A:(fC n H p (fun k=>v k) j*inv%p*fC n H p (fun k=>v k) piv)%p=fC n H p (fun k=>v k) j%p:=by
   rw[ft,kV _ (jV _),<-ft,eY,ft,bZ inv,d,ie,kV _ (jV _)]
  rw[Int.sub_emod,A,Int.sub_self,Int.zero_emod]
theorem G5(n:Nat)(H:aB)(p:Int)(v:ik)(i:Nat):p∣(aq n fun j=>H i j*v j)-fC n H p v i:=by
 rw[Aj];exact Int.dvd_self_sub_emod
theorem Cu{p:Int}{v:ik}(a:∀i,i<n->p∣l i-v i)(i:Nat):p∣(aq n fun j=>H i j*l j)-fC n H p v i:=by
 have e:(aq n fun j=>H i j*l j)-fC n H p v i=((aq n fun j=>H i j*v j)-fC n H p v i)+aq n fun j=>H i j*(l j-v j):=by
  have:(aq n fun j=>H i j*l j)=(aq n fun j=>H i j*v j)+aq n fun j=>H i j*(l j-v j):=by
   rw[<-dI];exact aA fun j _=>by grind
  omega
 rw[e];exact jk (G5 n H p v i) (jl fun j b=>cP (a j b))
theorem oh{p:Int}(i:Nat):p∣jP v p piv t i-(v i:Nat):=by
 unfold jP;split
 ·exact⟨t,om⟩
 ·exact⟨0,om⟩
theorem Ct(a:kU n p H v):(p:Int)∣aq n fun i=>fC n H p (fun k=>v k) i*(v i:Nat):=by
 refine de ?_;rw[<-a.norm];unfold gC;refine mA n _ _ p fun i _=>?_;rw[Aj];show((aq n fun j=>H i j*((v j:Nat):Int))%p*_)%p=_;rw[ft,kV _ (jV _),<-ft]
theorem F4(a:kU n p H v)(b:∀i,i<n->(p:Int)∣l i-(v i:Nat)):(p:Int)∣aq n fun i=>fC n H p (fun k=>v k) i*l i:=by
 have e:(aq n fun i=>fC n H p (fun k=>v k) i*l i)=(aq n fun i=>fC n H p (fun k=>v k) i*(v i:Nat))+aq n fun i=>fC n H p (fun k=>v k) i*(l i-(v i:Nat)):=by
  rw[<-dI];exact aA fun i _=>by grind
 rw[e];exact jk (Ct a) (jl fun i c=>cP (b i c))
theorem lH.tri(h:lH n p H v B):(∀r c,r<c->c<n->B r c=0)/\(∀r,r<n->0<B r r)/\(∀c j,c<n->j<c->0<=B c j/\B c j<B c c)/\Dk n n B:=by
 obtain⟨piv,t,inv,_,_,_,_,_,_,g,e⟩:=h.ex;have a:=e.herm;exact⟨fun r c b f=>a.up r c b om om,a.pos,a.rng,fun r d=>⟨fun j b f=>a.up r j b d om,a.pos r d⟩⟩
theorem lH.det(m:p∈cM)(o:kU n p H v)(h:lH n p H v B):det n B=(p:Int)^n:=by
 have A:3<=p/\p<=17:=by
  have q:=m;simp only[cM,du,aG,or_false]at q;omega
 obtain⟨piv,t,g,c,F,r⟩:=h.char m;obtain⟨d,l,f⟩:=zI o.lead;have b:=r7 (n:=n) (H:=H) (p:=(p:Int)) (v:=fun k=>((v k:Nat):Int)) om;have s:∃j,j<n/\d≠j/\fC n H p (fun k=>v k) j≠0:=by
  refine cU fun u=>?_;have C:∀j,j<n->j≠d->fC n H p (fun k=>v k) j=0:=fun j w a=>cU fun G=>u ⟨j,w,Ne.symm a,G⟩;have D:=Ct o;rw[cp d l (fun i I a=>by rw[C i I a];simp),f,ie]at D
  have E:=Int.emod_eq_zero_of_dvd D;rw[dS (b d).1 (b d).2]at E;by_cases e:piv=d
  ·rw[e]at c;exact c E
  ·exact c (C piv g e)
 obtain⟨j,w,a,J⟩:=s;obtain⟨iv,y⟩:=Ke m (x:=fC n H p (fun k=>v k) j) (by have:=b j;omega) (b j).2
 have z:∃t',jP v p piv t d=1+p*t':=by
  unfold jP;split
  ·exact⟨t,by rw[f]⟩
  ·exact⟨0,by rw[f];simp⟩
 obtain⟨t',z⟩:=z;exact J0 (p:=(p:Int)) om w l a y z (F4 o fun i _=>oh i) h.tri.2.2.2 r
theorem lH.gram(d:gH n H)(e:p∈cM)(h:lH n p H v B){i j:Nat}(f:i<n)(g:j<n):(p:Int)*p∣mm n (mm n (fun i j=>B j i) H) B i j:=by
 obtain⟨piv,t,c,l,b,a⟩:=h.char e;rw[AZ];exact It d.red.pd.sym (fun i _=>Cu (fun k _=>oh k) i) b ((a _).1 (gO.col f)) ((a _).1 (gO.col g))
theorem lH.unit(c:p∈cM)(h:lH n p H v B){k:Nat}(f:k<n):gO n n B (kv ((p:Int)*p) k):=by
 obtain⟨piv,t,b,d,e,a⟩:=h.char c;refine(a _).2 ⟨0,kv p k,fun i _=>?_,?_⟩
 ·unfold kv;split<;>simp
 ·refine jl fun i _=>cP ?_;unfold kv;split
  ·exact jV _
  ·exact Int.dvd_zero _
theorem lH.lift(c:gH n H)(d:p∈cM)(h:lH n p H v B){l:ik}(y:∀i,i<n->(p:Int)∣l i-(v i:Nat))(q:(p:Int)*p∣jn n H l l):gO n n B l:=by
 have u:3<=p/\p<=17:=by
  have f:=d;simp only[cM,du,aG,or_false]at f;omega
 obtain⟨piv,t,w,z,g,m⟩:=h.char d;have x:∀i,i<n->l i=1*jP v p piv t i+p*((l i-jP v p piv t i)/p):=fun i o=>by
  rw[Int.mul_ediv_cancel']
  ·omega
  ·have A:=y i o;have C:=oh (v:=v) (p:=(p:Int)) (piv:=piv) (t:=t) i;rw[(om:l i-jP v p piv t i=(l i-(v i:Nat))-(jP v p piv t i-(v i:Nat)))]
   exact Int.dvd_sub A C
 refine(m l).2 ⟨1,fun i=>(l i-jP v p piv t i)/p,x,?_⟩;generalize D:(fun i=>(l i-jP v p piv t i)/(p:Int))=a;have b:∀i,i<n->l i=1*jP v p piv t i+p*a i:=fun i o=>by rw[<-D];exact x i o
 rw[qR b b,kO,iW c.red.pd.sym (jP v p piv t),iW c.red.pd.sym a (fun i=>1*jP v p piv t i+p*a i),kO,kO,iW c.red.pd.sym (jP v p piv t) a]at q;have E:(p:Int)∣2*jn n H a (jP v p piv t):=by
  obtain⟨r,F⟩:=g;obtain⟨s,G⟩:=q;refine⟨s-r-jn n H a a,cB (show(p:Int)≠0 by omega) ?_⟩
  rw[F]at G
  grind
 have I:(p:Int)∣jn n H a (jP v p piv t):=by
  rcases oT d _ _ E with h|h
  ·have:=Int.le_of_dvd om h;omega
  ·exact h
 have e:(aq n fun i=>fC n H p (fun k=>v k) i*a i)=jn n H a (jP v p piv t)-aq n fun i=>((aq n fun j=>H i j*jP v p piv t j)-fC n H p (fun k=>v k) i)*a i:=by
  unfold jn;rw[<-kw];exact aA fun i _=>by grind
 show(p:Int)∣aq n fun i=>fC n H p (fun k=>v k) i*a i;rw[e];exact Int.dvd_sub I (jl fun i _=>Int.dvd_mul_of_dvd_left (Cu (fun k _=>oh k) i))
theorem lH.ent(g:p∈cM)(h:lH n p H v B){i j:Nat}(d:i<n)(k:j<n):0<=B i j/\B i j<=289:=by
 have c:3<=p/\p<=17:=by
  have e:=g;simp only[cM,du,aG,or_false]at e;omega
 obtain⟨l,m,o,q⟩:=h.tri;have t:B i i<=289:=by
  have f:=(TL.of_tri q).dvd _ (h.unit g d) i d (fun r u=>by unfold kv;rw[if_neg om])
  unfold kv at f;rw[if_pos rfl]at f;have s:(0:Int)<p*p/\(p:Int)*p<=289:=by
   rw[<-Int.natCast_mul];have a:=bK c.2 c.2;have b:=bK c.1 c.1;omega
  have:=Int.le_of_dvd s.1 f;omega
 rcases Nat.lt_trichotomy i j with h|h|h
 ·rw[l i j h k];omega
 ·subst h;have:=m i d;omega
 ·have:=o i j d h;omega
theorem KN{u v:ik}{a b c:Nat}(f:n<=5)(g:∀i j,i<n->j<n->(H i j).natAbs<=a)(h:∀i,i<n->(u i).natAbs<=b)(k:∀i,i<n->(v i).natAbs<=c):(jn n H u v).natAbs<=25*(a*b*c):=by
 have l:∀i,i<n->(aq n fun j=>H i j*v j).natAbs<=n*(a*c):=fun i m=>by
  refine bI (zt _ _) (rP fun j d=>?_);rw[eG];exact bK (g i j m d) (k j d)
 have o:(jn n H u v).natAbs<=n*(n*(a*c)*b):=by
  refine bI (zt _ _) (rP fun j d=>?_);rw[eG];exact bK (l j d) (h j d)
 refine bI o ?_;have p:n*n<=5*5:=bK f f;have q:=Nat.mul_le_mul_right (a*b*c) p;have e:n*(n*(a*c)*b)=n*n*(a*b*c):=by grind
 omega
theorem lH.gram_ent(g:gH n H)(k:p∈cM)(h:lH n p H v B){i j:Nat}(d:i<n)(e:j<n):(mm n (mm n (fun i j=>B j i) H) B i j).natAbs<=246591576450:=by
 rw[AZ];have:=KN (H:=H) (a:=118098) (b:=289) (c:=289) g.five (fun i j d e=>by have:=g.ent i j d e;omega) (u:=fun r=>B r i) (v:=fun r=>B r j) (fun r f=>by have:=h.ent k f d;omega) (fun r f=>by have:=h.ent k f e;omega)
 omega

theorem He(h:∀i,i<n->0<=f i):0<=aq n f:=by
 induction n with
 | zero=>exact Int.le_refl _
 | succ n ih =>
  have a:=ih fun i b=>h i om;have c:=h n om;show 0<=aq n f+f n;omega
theorem Hf(h:∀i,i<n->0<=f i){i:Nat}(a:i<n):f i<=aq n f:=by
 induction n with
 | zero=>omega
 | succ n ih =>
  have b:=He (n:=n) (f:=f) fun i a=>h i om;have c:=h n om;show f i<=aq n f+f n;by_cases e:i=n
  ·subst e;omega
  ·have:=ih (fun i a=>h i om) om;omega
theorem FM{m:Nat}(b:m<=n):aq n (fun j=>if j<m then f j else 0)=aq m f:=by
 induction n with
 | zero=>obtain rfl:m=0:=om;rfl
 | succ n ih =>
  by_cases e:m=n+1
  ·subst e;exact aA fun i a=>by rw[if_pos a]
  ·show aq n _+(if n<m then f n else 0)=_
   rw[ih om,if_neg om,Int.add_zero]
theorem Gd(p:Dk n n B)(d:Dk n n B')(q:∀c j,c<n->j<c->0<=B c j/\B c j<B c c)(u:∀c j,c<n->j<c->0<=B' c j/\B' c j<B' c c)
  (C:∀y,gO n n B y↔gO n n B' y):∀i j,i<n->j<n->B i j=B' i j:=by
 have t:=TL.of_tri p;have t':=(TL.of_tri d).congr t.lat C;have v:∀i,i<=n->BY B n i=BY B' n i:=fun i a=>t.uniq t' (n-i) i om a;have hdiag:∀i,i<n->B i i=B' i i:=fun i a=>by
  have f:=t.step i a;have g:=t'.step i a;have D:=t.M_pos n (i+1) om om;rw[v i om,v (i+1) om]at f;rw[v (i+1) om]at D;rw[f]at g;exact Int.eq_of_mul_eq_mul_right om g
 intro i j a s;rcases az i j with h|h
 ·rw[(p i a).1 j h s,(d i a).1 j h s]
 have E:gO n n B (fun r=>1*B r j+(-1)*B' r j):=by
  obtain⟨c,F⟩:=(C _).2 (gO.col (n:=n) (B:=B') s);obtain⟨G,w⟩:=gO.col (n:=n) (B:=B) s;refine⟨fun k=>1*G k+(-1)*c k,fun r q=>?_⟩;have f:=F r q;have g:=w r q;dsimp only at f g ⊢;rw[f,g,<-mB];exact aA fun k _=>by grind
 have key:∀m i,i<n->j<=i->i-j<=m->∀r,r<=i->B r j=B' r j:=by
  intro m
  induction m with
  | zero =>
   intro i a l H r o;obtain rfl:i=j:=om
   rcases az r i with e|e
   ·rw[(p r om).1 i e a,(d r om).1 i e a]
   ·obtain rfl:r=i:=om
    exact hdiag r a
  | succ m ih =>
   intro i a l H r o;rcases az j i with e|e
   ·have ih':=ih (i-1) om om om;rcases az r i with I|I
    ·exact ih' r om
    ·obtain rfl:r=i:=om
     have J:=t.dvd _ E r a (fun k M=>by rw[ih' k om];omega)
     have N:=q r j a e;have K:=u r j a e;rw[<-hdiag r a]at K;obtain⟨z,L⟩:=J;have b:=(p r a).2;have x:z=0:=by
      rcases fF z 0 with A|A|A
      ·have:=a8 (om:z<=-1) (aS b)
       omega
      ·exact A
      ·have:=a8 (om:1<=z) (aS b)
       omega
     rw[x]at L;omega
   ·exact ih i a l om r o
 exact key (i-j) i a h (af _) i (af _)
theorem lH.sub(s:gH n H)(d:p∈cM)(h:lH n p H v B)(h':lH n p H v B'){y:ik}(u:gO n n B y):gO n n B' y:=by
 obtain⟨piv,t,_,_,e,f⟩:=h.char d;obtain⟨piv',t',_,_,q,b⟩:=h'.char d;obtain⟨c,a,w,x⟩:=(f y).1 u;have z:gO n n B' (jP v p piv t):=h'.lift s d (fun i _=>oh i) e;obtain⟨r,g⟩:=z;obtain⟨l,m⟩:gO n n B' (fun i=>p*a i):=(b _).2 ⟨0,a,fun i _=>by dsimp only;omega,x⟩
 refine⟨fun k=>c*r k+1*l k,fun i o=>?_⟩;rw[w i o,g i o,show(p:Int)*a i=aq n (fun j=>B' i j*l j)from m i o];have:=mB n c 1 (fun j=>B' i j*r j) (fun j=>B' i j*l j);rw[Int.one_mul]at this;rw[<-this];exact aA fun k _=>by grind
theorem lH.uniq(a:gH n H)(b:p∈cM)(h:lH n p H v B)(h':lH n p H v B'):∀i j,i<n->j<n->B i j=B' i j:=by
 obtain⟨_,_,c,d⟩:=h.tri;obtain⟨_,_,e,f⟩:=h'.tri;exact Gd d f c e fun y=>⟨h.sub a b h',h'.sub a b h⟩
theorem Pd.bil_pos(h:Pd A n){x:ik}{j:Nat}(k:j<n)(f:x j≠0):0<jn n A x x:=by
 obtain⟨m,rfl⟩:∃m,n=m+1:=⟨n-1,om⟩
 obtain⟨E,e⟩:∃E:Int,∀i,i<m+1->A i i<=E:=⟨aq (m+1) (fun i=>A i i),fun i b=>by
  have:=Hf (fun i b=>aS (h.diag b)) b;exact this⟩
 have l:=h.coord (m-j) x j e om;have o:0<x j*x j:=by
  rcases fF (x j) 0 with a|a|a
  ·have:=Int.mul_pos_of_neg_of_neg a a;exact this
  ·exact absurd a f
  ·exact iH a a
 have c:0<=E:=by have:=e 0 om;have:=h.diag (om:0<m+1);omega
 have g:0<=E^m:=Int.pow_nonneg c;rcases Int.lt_or_le 0 (jn (m+1) A x x)with d|d
 ·exact d
 ·have:=a8 d g;omega
theorem B7{A:aB}{k:Nat}(b:∀j,j<=k->det j A≠0)(d:∀c,A k c=dC k c):∀j,j<=k->(∀c,j<=c->c<k->ca A j (k-j) (c-j)=0)/\ca A j (k-j) (k-j)=det j A
 | 0,_=>by
  refine⟨fun c _ m=>?_,?_⟩
  ·rw[eS,c9,c9,d];unfold dC;rw[if_neg om]
  ·rw[eS,c9,d];simp[dC,det]
 | j+1,n=>by
  obtain⟨i,o⟩:=B7 b d j om;have e:=i j (af _) om;rw[bH]at e;have st:=fun c (m:j+1<=c)=>ix (A:=A) (k:=j) (fun x p=>b x om) (k-(j+1)) (c-(j+1));have l:k-(j+1)+1=k-j:=om
  refine⟨fun c f g=>?_,?_⟩
  ·have a:=st c f;rw[l,(om:c-(j+1)+1=c-j),e,i c om g]at a
   simp only[ld,lc,Int.sub_zero]at a;rcases gK.1 a.symm with h|h
   ·exact absurd h (b j om)
   ·exact h
  ·have a:=st k n;rw[l,e,o]at a;simp only[lc,Int.sub_zero,cA]at a;refine cB (b j om) ?_;rw[<-a,bZ]
theorem IL(f:∀j,j<=k->det j A≠0):o6 (k+1) A k k=det k A:=by
 have e:∀j,j<=k->det j (setRow A k (dC k))=det j A:=fun j d=>aT fun a b g _=>by simp only[setRow];rw[if_neg om]
 have h:=(B7 (A:=setRow A k (dC k)) (k:=k) (fun j d=>by rw[e j d];exact f j d) (fun c=>by simp only[setRow,if_true]) k (af _)).2
 rw[bH,cA,e k (af _)]at h;exact h
theorem Pd.of_pos(o:∀a b,a<n->b<n->A a b=A b a)(p:∀x:ik,(∃j,j<n/\x j≠0)->0<jn n A x x):Pd A n:=by
 refine⟨o,fun k=>?_⟩
 induction k using Nat.strongRecOn with
 | _ k ih =>
  intro g
  match k,g,ih with
  | 0,_,_=>simp[det]
  | k+1,g,ih =>
   have q:∀j,j<=k->det j A≠0:=fun j s=>by have:=ih j om om;omega
   have h:=IL q;have r:=ih k om om;have d:=p (fun j=>if j<k+1 then o6 (k+1) A k j else 0) ⟨k,om,by rw[if_pos om,h];omega⟩
   have e:jn n A (fun j=>if j<k+1 then o6 (k+1) A k j else 0) (fun j=>if j<k+1 then o6 (k+1) A k j else 0)=det (k+1) A*det k A:=by
    have c:∀i,i<k+1->(aq n fun j=>A i j*(if j<k+1 then o6 (k+1) A k j else 0))=if k=i then det (k+1) A else 0:=fun i l=>by
     rw[<-sC A (om:k<k+1) l,<-FM (om:k+1<=n)]
     exact aA fun j _=>by split<;>simp
    unfold jn;rw[cp k om (fun i l f=>?_)]
    ·dsimp only;rw[c k om,if_pos rfl,if_pos om,h]
    ·dsimp only;by_cases m:i<k+1
     ·rw[c i m,if_neg (Ne.symm f),lc]
     ·rw[if_neg m,ld]
   rw[e]at d;rw[bZ]at d;exact oU r d
theorem lH.qpd{Q:aB}(u:gH n H)(A:p∈cM)(h:lH n p H v B)(C:∀i j,i<n->j<n->mm n (mm n (fun i j=>B j i) H) B i j=p*p*Q i j):Pd Q n:=by
 have D:3<=p:=by
  have l:=A;simp only[cM,du,aG,or_false]at l;omega
 have m:(0:Int)<p*p:=iH om om;have w:=u.red.pd.sym;obtain⟨E,F,_,_⟩:=h.tri;have o:∀i j,i<n->j<n->(p:Int)*p*Q i j=jn n H (fun r=>B r i) (fun r=>B r j):=fun i j f q=>by rw[<-C i j f q,AZ]
 refine Pd.of_pos (fun a b d c=>?_) fun x ⟨j,q,s⟩=>?_
 ·refine cB (show(p:Int)*p≠0 by omega) ?_
  rw[o a b d c,o b a c d,iW w]
 ·obtain⟨i,f,t,g⟩:=CC (P:=fun j=>x j≠0) ⟨j,q,s⟩;have e:(p:Int)*p*jn n Q x x=jn n H (fun r=>aq n (fun a=>x a*B r a)) (fun r=>aq n (fun a=>x a*B r a)):=by
   rw[sU n H x (fun a r=>B r a)];unfold jn;rw[<-cO];refine aA fun a d=>?_;have y:=CY w x (fun a r=>B r a) (fun r=>B r a) n;unfold jn at y;rw[y,bZ (x a),<-eY,<-cO];congr 1;refine aA fun b c=>?_;have z:=o a b d c;unfold jn at z;rw[<-z];grind
  have G:(fun r=>aq n (fun a=>x a*B r a)) i≠0:=by
   show aq n (fun a=>x a*B i a)≠0;rw[cp i f (fun a d I=>?_)]
   ·intro J;rcases gK.1 J with k|k
    ·exact t k
    ·have:=F i f;omega
   ·rcases az a i with k|k
    ·have:x a=0:=cU fun K=>g a k K;rw[this,lc]
    ·rw[E i a om d,ld]
  have c:=u.red.pd.bil_pos (x:=fun r=>aq n (fun a=>x a*B r a)) f G;rw[<-e]at c;exact oU m c

end Go.Proofs.YtdobfmlmenaajaaGreatDoor
