/-
  Lemmas for NeighbourGram.
-/
import Derived.Test.YtdobfmlmenaajaaGreatDoorG14
namespace Go.Proofs.YtdobfmlmenaajaaGreatDoor
open Go.RowKit Tryz
open _root_.Classical renaming choose→c9
open _root_.List renaming range→fT
open _root_.Nat renaming beq→ap,blt→aM,testBit→iV,ble→je,strongRecOn→jx
open _root_.Option renaming none→ab
open Tryz renaming prog→ah
set_option maxHeartbeats 6400000
set_option maxRecDepth 4096
set_option linter.all false
variable{Q:AX->Tm->St->Prop}{ops:Array Oper}{c:Code}{l:EL}{a b z za zb:Int}{cls ks:List Nat}{f i j k nx:Nat}{M:Nat->EL}{alts:Nat->List Nat}{N:Nat->Nat}{T:Nat->TE}{V:Nat->XV}{o:Oper}{φ:Ph}{S:St}{te:TE}{O:Tm}{r:XV×Nat×EL}
noncomputable section
theorem IB(te:TE):∀R:List Nat,∃te',∀t,jF te' t=if t∈R then jF te t else .any
 | []=>⟨.e,fun t=>by simp[rQ]⟩
 | s::R=>by
  obtain⟨te',h⟩:=IB te R;refine⟨yu te' s (jF te s),fun t=>?_⟩;rw[mb,h];by_cases e:t=s
  .subst e;simp
  .rw[af e];simp[e]
def ya{call:d9}(b:mD call){ops:Array Oper}{o:Oper}{te:TE}{nx:Nat}{l:EL}{r:XV×Nat×EL}(h:xg call ops o te nx l=some r){φ:Ph}(c:GP φ){O:Tm}{S:St}(a:∀t∈qo ops o,ER φ (jF te t) (O t))(d:MR φ l S){K:Tm->St->Prop}
  (f:∀ψ z S',φ.le ψ->ER ψ r.1 z->MR ψ r.2.2 S'->K (O.put o.dst z) S'):Di ops o O S K:=by
 obtain⟨te',h'⟩:=IB te (qo ops o);rw[K8 (te':=te') (fun t a=>by rw[h',ai a])]at h
 refine xg_ok b h c (fun t=>?_) d f;rw[h'];by_cases e:t∈qo ops o
 .rw[ai e];exact a t e
 .rw[af e];simp[ER]
def bit(m k:Nat):Bool:=iV m k
def kB(cls:List Nat)(i k:Nat):Bool:=bit (cls.getD i 0) k
def ns(ops:Array Oper)(i:Nat):Nat:=match ops[i]? with
 | some o=>fL o.op
 | ab=>0
def AA(ops:Array Oper)(i:Nat):Option Nat:=(ops[i]?).bind (·.dst)
def comp(cls:List Nat)(i j:Nat):Bool:=kB cls i j||kB cls j i
structure pI(ops:Array Oper)(cls:List Nat)(alts:Nat->List Nat):Prop where
 aft:BT ops=true
 cl:∀i o k,ops[i]? = some o->kB cls i k=true->∃j∈Go.Proofs.YtdobfmlmenaajaaGreatDoor.aft o,j=k∨kB cls j k=true
 dst:∀i j d,AA ops i=some d->AA ops j=some d->i=j
 reads:∀i o t k,ops[i]? = some o->t∈qo ops o->k≠i->AA ops k=some t->comp cls i k=true
 four:∀i j,i≠j->ns ops i=4->2<=ns ops j->comp cls i j=true
 three:∀i j,ns ops i=3->ns ops j=2->comp cls i j=true
 guard:∀(i:Nat) (o:Oper),ops[i]? = some o->fL o.op=2->o.guard=ab
 altW:∀i w,ns ops i=1->ns ops w=4->comp cls i w=false->w+1∈alts i
 altA:∀i,ns ops i=1->∃a∈alts i,a<=i/\(∀w,ns ops w=4->kB cls i w=true->w<a)/\∀k,k<a->2<=ns ops k->ns ops k≠3->kB cls i k=true
structure qJ(call:d9)(ops:Array Oper)(T:Nat->TE)(N:Nat->Nat)(M:Nat->EL)(V:Nat->XV):Prop where
 step:∀i o,ops[i]? = some o->xg call ops o (T i) (N i) (M i)=some (V i,N (i+1),M (i+1))
 put:∀i o t,ops[i]? = some o->jF (T (i+1)) t=if o.dst=some t then V i else jF (T i) t
def qJ.get{call:d9}(h:qJ call ops T N M V){cls:List Nat}{alts:Nat->List Nat}(j:pI ops cls alts) :
  ∀i,i<=ops.size->∀t,(∀k,k<i->AA ops k=some t->jF (T i) t=V k)/\((∀k,k<i->AA ops k≠some t)->jF (T i) t=jF (T 0) t):=by
 intro i
 induction i with
 | zero=>intro _ t;exact⟨fun k d=>om,fun _=>rfl⟩
 | succ i ih =>
  intro p t;obtain⟨o,f⟩:∃o,ops[i]? = some o:=⟨ops[i],cg om⟩;have b:=h.put i o t f;have c:AA ops i=o.dst:=by unfold AA;rw[f];rfl
  obtain⟨l,m⟩:=ih om t;refine⟨fun k d a=>?_,fun g=>?_⟩
  .by_cases e:k=i
   .subst e;rw[b,ai (by rw[<-c];exact a)]
   .rw[b,af (fun n=>e (j.dst k i t a (by rw[c];exact n)))]
    exact l k om a
  .rw[b,af (by rw[<-c];exact g i om)]
   exact m fun k d=>g k om
def rj{call:d9}(a:fL o.op≠3):xk call o te nx l=AR call o te nx l:=by
 unfold xk;rw[RP a]
def Hx{call:d9}(d:tN call){ops:Array Oper}{o:Oper}{te:TE}{nx:Nat}{l:EL}{r:XV×Nat×EL}(f:fL o.op=0)(h:xg call ops o te nx l=some r):r.2=(nx,l)/\∀nx' l',xg call ops o te nx' l'=some (r.1,nx',l'):=by
 unfold xg at h ⊢
 cases g:o.guard with
 | none =>
  rw[g]at h;dsimp only at h ⊢;rw[rj om]at h;obtain⟨a,c⟩:=DS d f h;exact⟨a,fun nx' l'=>by rw[rj om];exact c nx' l'⟩
 | some p =>
  obtain⟨j,want⟩:=p;rw[g]at h;dsimp only at h ⊢
  cases i:uW ops te j<;>rw[i]at h<;>try cases h
  rename_i b;dsimp only at h ⊢;by_cases e:b=want
  .rw[ai e,rj om]at h;obtain⟨a,c⟩:=DS d f h;exact⟨a,fun nx' l'=>by rw[ai e,rj om];exact c nx' l'⟩
  .rw[af e]at h
   cases h
   exact⟨rfl,fun nx' l'=>by rw[af e]⟩
def sE{call:d9}(f:fL o.op=1)(h:xg call ops o te nx l=some r):r.2=(nx,l)/\∀nx' l',(∀i X,en l i=some (some X)->en l' i=some (some X))->xg call ops o te nx' l'=some (r.1,nx',l'):=by
 unfold xg at h ⊢
 cases g:o.guard with
 | none =>
  rw[g]at h;dsimp only at h ⊢;rw[rj om]at h;obtain⟨a,c⟩:=DT f h;exact⟨a,fun nx' l' d=>by rw[rj om];exact c nx' l' d⟩
 | some p =>
  obtain⟨j,want⟩:=p;rw[g]at h;dsimp only at h ⊢
  cases k:uW ops te j<;>rw[k]at h<;>try cases h
  rename_i b;dsimp only at h ⊢;by_cases e:b=want
  .rw[ai e,rj om]at h;obtain⟨a,c⟩:=DT f h;exact⟨a,fun nx' l' d=>by rw[ai e,rj om];exact c nx' l' d⟩
  .rw[af e]at h
   cases h
   exact⟨rfl,fun nx' l' _=>by rw[af e]⟩
def QW{call:d9}(a:fL o.op=3)(h:xg call ops o te nx l=some r):r.2=(nx,l):=by
 have key:∀{r},xk call o te nx l=some r->r.2=(nx,l):=fun {r} h=>by
  unfold xk at h;split at h
  .split at h
   .split at h
    .cases h;rfl
    .cases h
   .cases h
  .rename_i e;rw[a]at e;cases e
 unfold xg at h;split at h
 .exact key h
 .split at h
  .split at h
   .exact key h
   .cases h;rfl
  .cases h
def NL{call:d9}(b:o.guard=ab)(c:fL o.op=2)(h:xg call ops o te nx l=some r):∃X,en l nx=ab/\r=(r.1,nx+1,rE l nx (some X))/\∀l',en l' nx=ab->xg call ops o te nx l'=some (r.1,nx+1,rE l' nx (some X)):=by
 unfold xg at h ⊢;rw[b]at h ⊢;dsimp only at h ⊢;rw[rj om]at h;obtain⟨X,d,e,f⟩:=KY c h;exact⟨X,d,e,fun l' a=>by rw[rj om];exact f l' a⟩
end

noncomputable section
def MR.ext{l':EL}(h:MR φ l S)(e:∀j,en l j=en l' j):MR φ l' S :=
 ⟨fun i a=>h.dom i (by rw[e];exact a),fun i X a=>h.live i X (by rw[e];exact a),fun i j X Y b a c=>h.inj i j X Y b (by rw[e];exact a) (by rw[e];exact c)⟩
def Dy(ops:Array Oper)(L:Nat->Bool):Prop:=∀i o,ops[i]? = some o->L i=true->∀k∈aft o,L k=true
structure QE(ops:Array Oper)(T:Nat->TE)(N:Nat->Nat)(M:Nat->EL)(V:Nat->XV)(φ0:Ph)(L:Nat->Bool)(O:Tm)(S:St)(φ:Ph)(s:Nat)(m:EL):Prop where
 le:φ0.le φ
 s1:s<=ops.size
 s2:∀w,ns ops w=4->L w=true->w<s
 s3:s=0∨∃w,s=w+1/\ns ops w=4/\L w=true
 t1:∀t k,L k=true->AA ops k=some t->ER φ (V k) (O t)
 t2:∀t,(∀k,L k=true->AA ops k≠some t)->ER φ (jF (T 0) t) (O t)
 mr:MR φ m S
 m1:∀k,s<=k->ns ops k=2->L k=true->en m (N k)=en (M (k+1)) (N k)
 m2:∀j,(∀k,s<=k->ns ops k=2->L k=true->N k≠j)->en m j=en (M s) j
def td(h:ops[i]? = some o):ns ops i=fL o.op:=by unfold ns;rw[h]
def Me(h:ns ops i≠0):∃o,ops[i]? = some o/\i<ops.size:=by
 unfold ns at h
 cases a:ops[i]? with
 | none=>rw[a]at h;exact absurd rfl h
 | some o=>exact⟨o,rfl,(fB.1 a).1⟩
def Ex(o:Op):fL o<=4:=by
 cases o<;>try (simp[fL];done)
 case call c=>have:=rX c;omega
def qJ.still{call:d9}(c:tN call){ops:Array Oper}{T:Nat->TE}{N:Nat->Nat}{M:Nat->EL}{V:Nat->XV}(h:qJ call ops T N M V){i:Nat}{o:Oper}(b:ops[i]? = some o)(d:ns ops i≠2)(f:ns ops i≠4):N (i+1)=N i/\M (i+1)=M i:=by
 have a:=h.step i o b;rw[td b]at d f;have g:=Ex o.op;have:((N (i+1),M (i+1)):Nat×EL)=(N i,M i):=by
  rcases (om:fL o.op=0∨fL o.op=1∨fL o.op=3)with e|e|e
  .exact(Hx c e a).1
  .exact(sE e a).1
  .exact QW e a
 exact⟨lc Prod.fst this,lc Prod.snd this⟩
def qJ.make{call:d9}(d:pI ops cls alts){T:Nat->TE}{N:Nat->Nat}{M:Nat->EL}{V:Nat->XV}(h:qJ call ops T N M V){i:Nat}{o:Oper}(a:ops[i]? = some o)(b:ns ops i=2) :
  en (M i) (N i)=ab/\N (i+1)=N i+1/\∃X,M (i+1)=rE (M i) (N i) (some X)/\∀l',en l' (N i)=ab->xg call ops o (T i) (N i) l'=some (V i,N i+1,rE l' (N i) (some X)):=by
 have c:=h.step i o a;rw[td a]at b;obtain⟨X,f,g,j⟩:=NL (d.guard i o a b) b c;have e:=lc Prod.snd g;exact⟨f,lc Prod.fst e,X,lc Prod.snd e,j⟩
def qJ.seg{call:d9}(u:tN call){ops:Array Oper}{cls:List Nat}{alts:Nat->List Nat}(v:pI ops cls alts){T:Nat->TE}{N:Nat->Nat}{M:Nat->EL}{V:Nat->XV}(h:qJ call ops T N M V){s:Nat}:∀i,s<=i->i<=ops.size->(∀w,s<=w->w<i->ns ops w≠4) ->
  N s<=N i/\(∀k,s<=k->k<i->ns ops k=2->N k<N i/\en (M i) (N k)=en (M (k+1)) (N k)/\en (M s) (N k)=ab)/\∀j,(∀k,s<=k->k<i->ns ops k=2->N k≠j)->en (M i) j=en (M s) j:=by
 intro i
 induction i with
 | zero =>
  intro x _ _;obtain rfl:s=0:=om
  exact⟨ae _,fun k _ d=>om,fun j _=>rfl⟩
 | succ i ih =>
  intro x B p;by_cases e:s=i+1
  .subst e;exact⟨ae _,fun k a b=>om,fun j _=>rfl⟩
  obtain⟨y,g,l⟩:=ih om om (fun w a b=>p w a om);obtain⟨o,q⟩:∃o,ops[i]? = some o:=⟨ops[i],cg om⟩;by_cases d:ns ops i=2
  .obtain⟨m,r,X,t,_⟩:=h.make v q d;refine⟨om,fun k a b c=>?_,fun j f=>?_⟩
   .by_cases ek:k=i
    .subst ek;refine⟨om,rfl,?_⟩
     rw[<-l (N k) (fun k' a' b' c'=>by have:=(g k' a' b' c').1;omega)];exact m
    .obtain⟨C,z,A⟩:=g k a om c;refine⟨om,?_,A⟩
     rw[t,fC,af om];exact z
   .rw[t,fC,af (fun n=>f i om om d n.symm)];exact l j fun k a b c=>f k a om c
  .obtain⟨m,r⟩:=h.still u q d (p i om om);rw[m,r];refine⟨y,fun k a b c=>?_,fun j f=>l j fun k a b c=>f k a om c⟩;have ek:k≠i:=fun n=>by subst n;exact d c
   exact g k a om c
def MU(h:BT ops=true){i:Nat}{o:Oper}(a:ops[i]? = some o){k:Nat}(b:k∈aft o):k<i:=by
 have c:=aE.1 h (o,i) (lX (by simpa using a))
 have d:=aE.1 c k b;simpa using d
def wu(b:pI ops cls alts):∀(i:Nat),i<ops.size->∀k,kB cls i k=true->k<i:=by
 intro i
 induction i using jx with
 | ind i ih =>
  intro d k f;have c:ops[i]? = some ops[i]:=cg d;obtain⟨j,g,e⟩:=b.cl i _ k c f;have a:=MU b.aft c g;rcases e with rfl|e
  .exact a
  .have:=ih j a om k e;omega
def Pl(c:pI ops cls alts){L:Nat->Bool}(d:∀i,L i=true->i<ops.size)(h:Dy ops L):∀(x:Nat),L x=true->∀k,kB cls x k=true->L k=true:=by
 intro x
 induction x using jx with
 | ind x ih =>
  intro a k l;obtain⟨o,b⟩:∃o,ops[x]? = some o:=⟨ops[x]'(d x a),cg (d x a)⟩;obtain⟨j,f,e⟩:=c.cl x _ k b l;have g:=h x _ b a j f;rcases e with rfl|e
  .exact g
  .exact ih j (MU c.aft b f) g k e
def rR(l:pI ops cls alts){te:TE}{V:Nat->XV}{L:Nat->Bool}{O:Tm}{φ ψ:Ph}(c:φ.le ψ){i:Nat}{o:Oper}(m:ops[i]? = some o){z:AV}(n:ER ψ (V i) z)
  (p:∀t k,L k=true->AA ops k=some t->ER φ (V k) (O t)) (q:∀t,(∀k,L k=true->AA ops k≠some t)->ER φ (jF te t) (O t)) :
  (∀t k,(if k=i then true else L k)=true->AA ops k=some t->ER ψ (V k) (O.put o.dst z t))/\∀t,(∀k,(if k=i then true else L k)=true->AA ops k≠some t)->ER ψ (jF te t) (O.put o.dst z t):=by
 have g:AA ops i=o.dst:=by unfold AA;rw[m];rfl
 have a:∀t,O.put o.dst z t=if o.dst=some t then z else O t:=fun t=>by
  cases r:o.dst with
  | none=>rw[LH];simp
  | some d =>
   by_cases e:t=d
   .subst e;rw[Od];simp
   .rw[LI e,af (fun h=>e (ku h).symm)]
 refine⟨fun t k f b=>?_,fun t j=>?_⟩
 .rw[a];by_cases e:k=i
  .subst e;rw[ai (by rw[<-g];exact b)];exact n
  .rw[af (fun h=>e (l.dst k i t b (by rw[g];exact h)))]
   rw[af e]at f;exact(p t k f b).mono c
 .rw[a,af (by rw[<-g];exact j i sm)]
  exact(q t fun k f=>j k (by by_cases e:k=i<;>simp[e,f])).mono c
def LC{call:d9}(a:pI ops cls alts){T:Nat->TE}{N:Nat->Nat}{M:Nat->EL}{V:Nat->XV}(h:qJ call ops T N M V){L:Nat->Bool}{O:Tm}{φ:Ph}{i:Nat}{o:Oper}(m:ops[i]? = some o)(p:i<ops.size)(s:∀i,L i=true->i<ops.size)
  (cin:∀k,kB cls i k=true->L k=true) (nin:∀k,L k=true->kB cls k i=true->False)
  (q:∀t k,L k=true->AA ops k=some t->ER φ (V k) (O t)) (r:∀t,(∀k,L k=true->AA ops k≠some t)->ER φ (jF (T 0) t) (O t)) (b:L i=false) :
  ∀t∈qo ops o,ER φ (jF (T i) t) (O t):=by
 intro t n;by_cases l:∃k,L k=true/\AA ops k=some t
 .obtain⟨k,c,d⟩:=l;have f:k≠i:=fun e=>by subst e;rw[c]at b;cases b
  have g:=a.reads i o t k m n f d;unfold comp at g;rcases gU.1 g with e|e
  .rw[(h.get a i om t).1 k (wu a i p k e) d];exact q t k c d
  .exact(nin k c e).elim
 .rw[(h.get a i om t).2 fun k f j=>?_]
  .exact r t fun k c d=>l ⟨k,c,d⟩
  .have g:=a.reads i o t k m n om j;unfold comp at g;rcases gU.1 g with e|e
   .exact l ⟨k,cin k e,j⟩
   .have:=wu a k om i e;omega
def Oj{call:d9}(hc:mD call)(R:tN call){ops:Array Oper}{cls:List Nat}{alts:Nat->List Nat}(l:pI ops cls alts){T:Nat->TE}{N:Nat->Nat}{M:Nat->EL}{V:Nat->XV}(h:qJ call ops T N M V)
  (hl:∀(i:Nat) (o:Oper) a,ops[i]? = some o->fL o.op=1->a∈alts i->∃nx,xg call ops o (T i) nx (M a)=some (V i,nx,M a))
  {φ0:Ph} (hG:GP φ0) {O:Tm} {S:St} (ht:TR φ0 (T 0) O) (hm:MR φ0 (M 0) S) {K:Tm->St->Prop} (hK:∀ψ O' S',φ0.le ψ->TR ψ (T ops.size) O'->MR ψ (M ops.size) S'->K O' S'):awI ops O S K:=by
 refine⟨fun L O S=>(∀i,L i=true->i<ops.size)/\Dy ops L/\∃φ s m,QE ops T N M V φ0 L O S φ s m,l.aft,?_,?_,?_⟩
 .exact⟨fun i F=>(mo F).elim,fun i o _ F=>(mo F).elim,φ0,0,M 0,Ph.le_refl _,jw _,fun w _ Q=>(mo Q).elim,bM rfl,fun t k g=>(mo g).elim,fun t _=>ht t,hm,fun k _ _ g=>(mo g).elim,fun j _=>rfl⟩
 .intro i o D L O S hP F ha;obtain⟨U,Y,φ,s,m,P⟩:=hP;have A:i<ops.size:=(fB.1 D).1;have Z:=Pl l U Y;have cin:∀k,kB cls i k=true->L k=true:=fun k g=>by
   obtain⟨j,B,e⟩:=l.cl i o k D g;rcases e with rfl|e
   .exact ha _ B
   .exact Z j (ha j B) k e
  have nin:∀k,L k=true->kB cls k i=true->False:=fun k d c=>by rw[Z k d i c]at F;cases F
  have hr:=LC l h D A U cin nin P.t1 P.t2 F;have hGφ:=hG.mono P.le;have hst:=h.step i o D;have kk:=td D;have G:∀k,(if k=i then true else L k)=true->k<ops.size:=fun k g=>by
   by_cases e:k=i
   .omega
   .rw[af e]at g;exact U k g
  have u:Dy ops (fun k=>if k=i then true else L k):=fun x ox hox hx k g=>by
   show(if k=i then true else L k)=true
   by_cases e:k=i
   .rw[ai e]
   .rw[af e];by_cases ex:x=i
    .subst ex;rw[D]at hox;cases hox;exact ha k g
    .have hx':(if x=i then true else L x)=true:=hx
     rw[af ex]at hx';exact Y x ox hox hx' k g
  have same:∀ψ z S',φ.le ψ->ER ψ (V i) z->MR ψ m S'->ns ops i≠2->ns ops i≠4->QE ops T N M V φ0 (fun k=>if k=i then true else L k) (O.put o.dst z) S' ψ s m:=fun ψ z S' n H q n2 n4=>by
   obtain⟨t1,t2⟩:=rR l n D H P.t1 P.t2;refine⟨Ph.le_trans P.le n,P.s1,fun w Q I=>?_,P.s3.imp id fun⟨w,W,C,E⟩=>⟨w,W,C,by show(if w=i then true else L w)=true;rw[E];simp⟩,t1,t2,q,fun k d c f=>?_,fun j B=>P.m2 j fun k d c f=>B k d c (by show(if k=i then true else L k)=true;rw[f];simp)⟩
   .have p:(if w=i then true else L w)=true:=I
    have e:w≠i:=fun e=>by subst e;exact n4 Q
    rw[af e]at p;exact P.s2 w Q p
   .have r:(if k=i then true else L k)=true:=f
    have e:k≠i:=fun e=>by subst e;exact n2 c
    rw[af e]at r;exact P.m1 k d c r
  have hle4:=Ex o.op;have segL:∀k,s<=k->ns ops k=2->L k=true->∀w,s<=w->w<k+1->ns ops w≠4:=fun k d c f w v h5 h6=>by
   have hwk:w≠k:=fun e=>by subst e;omega
   rcases gU.1 (l.four w k hwk h6 om)with e|e
   .obtain⟨_,_,Q⟩:=Me (ops:=ops) (i:=w) om;have:=wu l w Q k e;omega
   .have:=P.s2 w h6 (Z k f w e);omega
  have sLe:2<=ns ops i->s<=i:=fun c=>by
   rcases P.s3 with e0|⟨w,W,C,E⟩
   .omega
   .have hwi:w≠i:=fun e=>by subst e;rw[E]at F;cases F
    rcases gU.1 (l.four w i hwi C c)with e|e
    .exact(nin w E e).elim
    .have:=wu l i A w e;omega
  have noW:2<=ns ops i->∀w,s<=w->w<i->ns ops w≠4:=fun c w f v h5=>by
   rcases gU.1 (l.four w i om h5 c)with e|e
   .have:=wu l w om i e;omega
   .have:=P.s2 w h5 (cin w e);omega
  have eqMi:2<=ns ops i->(∀k,ns ops k=2->comp cls i k=true)->∀j,en m j=en (M i) j:=fun c hcm j=>by
   have y:=sLe c;have sg:=h.seg (s:=s) R l i y om (noW c);have kIn:∀k,ns ops k=2->k<i->L k=true:=fun k g hlt=>by
    rcases gU.1 (hcm k g)with e|e
    .exact cin k e
    .have:=wu l k om i e;omega
   by_cases g:∃k,s<=k/\k<i/\ns ops k=2/\N k=j
   .obtain⟨k,d,f,v,rfl⟩:=g;rw[P.m1 k d v (kIn k v f),(sg.2.1 k d f v).2.1]
   .rw[P.m2 j fun k d f v h5=>?_,sg.2.2 j fun k d f v h5=>g ⟨k,d,f,v,h5⟩];rcases gU.1 (hcm k f)with e|e
    .exact g ⟨k,d,wu l i A k e,f,h5⟩
    .exact nin k v e
  rcases (om:fL o.op=0∨fL o.op=1∨fL o.op=2∨fL o.op=3∨fL o.op=4)with e|e|e|e|e
  .obtain⟨_,C⟩:=Hx R e hst;exact ya hc (C (N i) m) hGφ hr P.mr fun ψ z S' n H q=>⟨G,u,ψ,s,m,same ψ z S' n H q om om⟩
  .have base:∀j X,en (M s) j=some (some X)->en m j=some (some X):=fun j X B=>by
    rw[P.m2 j fun k d c f E=>by
     subst E;have:=((h.seg R l (k+1) om (by have:=U k f;omega) (segL k d c f)).2.1 k d om c).2.2
     rw[this]at B;cases B]
    exact B
   have hsub:∃a∈alts i,∀j X,en (M a) j=some (some X)->en m j=some (some X):=by
    have caseA:(∀w,s=w+1->ns ops w=4->L w=true->kB cls i w=true)->∃a∈alts i,∀j X,en (M a) j=some (some X)->en m j=some (some X):=fun hA=>by
     obtain⟨a,ha1,ha2,ha3,ha4⟩:=l.altA i om;have hsa:s<=a:=by
      rcases P.s3 with e0|⟨w,W,C,E⟩
      .omega
      .have:=ha3 w C (hA w W C E);omega
     have sg:=h.seg R l a hsa om fun w d c f=>by
      have:=P.s2 w f (cin w (ha4 w c om om));omega
     refine⟨a,ha1,fun j X B=>?_⟩;by_cases g:∃k,s<=k/\k<a/\ns ops k=2/\N k=j
     .obtain⟨k,d,c,f,rfl⟩:=g;rw[P.m1 k d f (cin k (ha4 k c om om)),<-(sg.2.1 k d c f).2.1];exact B
     .refine base j X ?_;rw[<-sg.2.2 j fun k d c f v=>g ⟨k,d,c,f,v⟩];exact B
    rcases P.s3 with e0|⟨w,W,C,E⟩
    .exact caseA fun w d=>om
    .cases hbw:kB cls i w with
     | true =>
      exact caseA fun w' d _ _=>by
       obtain rfl:w'=w:=om
       exact hbw
     | false =>
      have hcw:comp cls i w=false:=by
       unfold comp;rw[hbw]
       cases hwi:kB cls w i with
       | true=>exact(nin w E hwi).elim
       | false=>rfl
      exact⟨w+1,l.altW i w om C hcw,W▸base⟩
   obtain⟨a,ha1,ha2⟩:=hsub;obtain⟨nx,hx⟩:=hl i o a D e ha1;have hx2:=(sE e hx).2 (N i) m ha2;exact ya hc hx2 hGφ hr P.mr fun ψ z S' n H q=>⟨G,u,ψ,s,m,same ψ z S' n H q om om⟩
  .obtain⟨r1,r2,X,r3,r4⟩:=h.make l D om;have y:=sLe om;have hnw:=noW om;have sg:=h.seg (s:=s) R l (i+1) om om fun w d c f=>by
    by_cases ew:w=i
    .subst ew;omega
    .exact hnw w d om f
   have hne:∀k,s<=k->ns ops k=2->L k=true->N k≠N i:=fun k d c f=>by
    have hki:k≠i:=fun e=>by subst e;rw[f]at F;cases F
    by_cases hlt:k<i
    .have:=(h.seg R l i y om hnw).2.1 k d hlt c;omega
    .have:=(h.seg R l k om (by have:=U k f;omega) (fun w a b=>segL k d c f w a om)).2.1 i y om om
     omega
   have hnone:en m (N i)=ab:=by
    rw[P.m2 (N i) hne];exact(sg.2.1 i y om om).2.2
   refine ya hc (r4 m hnone) hGφ hr P.mr fun ψ z S' n H q=>⟨G,u,ψ,s,rE m (N i) (some X),?_⟩;obtain⟨t1,t2⟩:=rR l n D H P.t1 P.t2;refine⟨Ph.le_trans P.le n,P.s1,fun w Q I=>?_,P.s3.imp id fun⟨w,W,C,E⟩=>⟨w,W,C,by show(if w=i then true else L w)=true;rw[E];simp⟩,t1,t2,q,fun k d c f=>?_,fun j B=>?_⟩
   .have p:(if w=i then true else L w)=true:=I
    have e:w≠i:=fun e=>by subst e;omega
    rw[af e]at p;exact P.s2 w Q p
   .have r:(if k=i then true else L k)=true:=f
    by_cases ek:k=i
    .subst ek;rw[r3,fC,fC,ai rfl,ai rfl]
    .rw[af ek]at r;rw[fC,af (hne k d c r)];exact P.m1 k d c r
   .rw[fC,af (fun C=>B i y om sm C.symm)]
    refine P.m2 j fun k d c f=>B k d c (by show(if k=i then true else L k)=true;rw[f];simp)
  .have eqM:=eqMi om fun k g=>l.three i k om g;refine ya hc hst hGφ hr (P.mr.ext eqM) fun ψ z S' n H q=>⟨G,u,ψ,s,m,same ψ z S' n H (MR.ext ?_ fun j=>(eqM j).symm) om om⟩;have:=(h.still R D om om).2;rw[this]at q;exact q
  .have hki:ns ops i=4:=om
   have cmpC:∀k,ns ops k=2->comp cls i k=true:=fun k g=>l.four i k (fun e=>by subst e;omega) hki om
   have eqM:=eqMi om cmpC;have y:=sLe om;refine ya hc hst hGφ hr (P.mr.ext eqM) fun ψ z S' n H q=>⟨G,u,ψ,i+1,M (i+1),?_⟩;obtain⟨t1,t2⟩:=rR l n D H P.t1 P.t2;refine⟨Ph.le_trans P.le n,om,fun w Q I=>?_,bO ⟨i,rfl,hki,sm⟩,t1,t2,q,fun k d c f=>?_,fun j _=>rfl⟩
   .have p:(if w=i then true else L w)=true:=I
    by_cases ew:w=i
    .omega
    .rw[af ew]at p;have:=P.s2 w Q p;omega
   .have r:(if k=i then true else L k)=true:=f
    rw[af om]at r;rcases gU.1 (cmpC k c)with e|e
    .have:=wu l i A k e;omega
    .exact(nin k r e).elim
 .intro L O S hP J;obtain⟨U,Y,φ,s,m,P⟩:=hP;have sg:=h.seg (s:=s) R l ops.size P.s1 (ae _) fun w d c f=>by
   have:=P.s2 w f (J w c);omega
  refine hK φ O S P.le (fun t=>?_) (P.mr.ext fun j=>?_)
  .by_cases g:∃k,k<ops.size/\AA ops k=some t
   .obtain⟨k,d,c⟩:=g;rw[(h.get l _ (ae _) t).1 k d c];exact P.t1 t k (J k d) c
   .rw[(h.get l _ (ae _) t).2 fun k d c=>g ⟨k,d,c⟩];exact P.t2 t fun k d c=>g ⟨k,U k d,c⟩
  .by_cases g:∃k,s<=k/\k<ops.size/\ns ops k=2/\N k=j
   .obtain⟨k,d,c,f,rfl⟩:=g;rw[P.m1 k d f (J k c),(sg.2.1 k d c f).2.1]
   .rw[P.m2 j fun k d c f v=>g ⟨k,d,U k f,c,v⟩,sg.2.2 j fun k d c f v=>g ⟨k,d,c,f,v⟩]
end

noncomputable section
def Bx(cls:List Nat):List Nat->Nat
 | []=>0
 | j::r=>2^j ||| (cls.getD j 0 ||| Bx cls r)
theorem Bw{cls:List Nat}{k:Nat}:∀{l:List Nat},iV (Bx cls l) k=true->∃j∈l,j=k∨kB cls j k=true
 | [],h=>by simp[Bx]at h
 | j::r,h=>by
  simp only[Bx,xR,gj]at h;rcases h with h|h|h
  .rw[SV]at h;exact⟨j,ef ..,bM (by simpa using h)⟩
  .exact⟨j,ef ..,bO h⟩
  .obtain⟨i,a,e⟩:=Bw h;exact⟨i,dJ _ a,e⟩
def BM:List Oper->List Nat->List Nat
 | [],c=>c
 | o::r,c=>BM r (c++[Bx c (aft o)])
def G0(p:Nat->Oper->Bool):Nat->List Oper->Bool
 | _,[]=>true
 | i,o::r=>p i o&&G0 p (i+1) r
theorem tw{p:Nat->Oper->Bool}:∀{l:List Oper} {k:Nat},G0 p k l=true->∀(i:Nat) (o:Oper),l[i]? = some o->p (k+i) o=true
 | [],_,_,i,o,h=>by simp at h
 | x::r,k,h,i,o,a=>by
  simp only[G0,au]at h
  cases i with
  | zero=>simp at a;subst a;exact h.1
  | succ i =>
   rw[bV]at a;have:=tw h.2 i o a
   rwa [(om:k+1+i=k+(i+1))]at this
def zp:List Oper->Nat->Bool
 | [],_=>true
 | o::r,m=>match o.dst with
  | ab=>zp r m
  | some d=>!iV m d&&zp r (m ||| 2^d)
theorem uZ:∀{l:List Oper} {m:Nat},zp l m=true->(∀(i:Nat) (d:Nat),(l[i]?).bind (·.dst)=some d->iV m d=false)/\∀(i j d:Nat),(l[i]?).bind (·.dst)=some d->(l[j]?).bind (·.dst)=some d->i=j
 | [],_,_=>⟨fun i d h=>by simp at h,fun i j d h=>by simp at h⟩
 | o::r,m,h=>by
  simp only[zp]at h
  cases b:o.dst with
  | none =>
   rw[b]at h;obtain⟨g,k⟩:=uZ h;refine⟨fun i d a=>?_,fun i j d a c=>?_⟩
   .cases i with
    | zero=>simp[b]at a
    | succ i=>exact g i d (by simpa using a)
   .cases i with
    | zero=>simp[b]at a
    | succ i =>
     cases j with
     | zero=>simp[b]at c
     | succ j=>rw[k i j d (by simpa using a) (by simpa using c)]
  | some n =>
   rw[b]at h;simp only[au,kR]at h;obtain⟨g,k⟩:=uZ h.2;have f:∀(i d:Nat),(r[i]?).bind (·.dst)=some d->iV m d=false/\d≠n:=fun i d a=>by
    have:=g i d a;rw[xR,Bool.or_eq_false_iff,SV]at this;exact⟨this.1,fun e=>by simp[e]at this⟩
   refine⟨fun i d a=>?_,fun i j d a c=>?_⟩
   .cases i with
    | zero=>simp[b]at a;subst a;exact h.1
    | succ i=>exact(f i d (by simpa using a)).1
   .cases i with
    | zero =>
     simp[b]at a
     cases j with
     | zero=>rfl
     | succ j=>exact((f j d (by simpa using c)).2 a.symm).elim
    | succ i =>
     cases j with
     | zero=>simp[b]at c;exact((f i d (by simpa using a)).2 c.symm).elim
     | succ j=>rw[k i j d (by simpa using a) (by simpa using c)]
def EW:List Oper->Nat
 | []=>0
 | o::r=>match o.dst with
  | ab=>EW r
  | some d=>2^d ||| EW r
theorem EU:∀{l:List Oper} {i d:Nat},(l[i]?).bind (·.dst)=some d->iV (EW l) d=true
 | [],i,d,h=>by simp at h
 | o::r,i,d,h=>by
  simp only[EW]
  cases i with
  | zero =>
   simp at h;rw[h];simp[xR]
  | succ i =>
   have:=EU (l:=r) (i:=i) (d:=d) (by simpa using h)
   cases a:o.dst with
   | none=>exact this
   | some b=>simp[xR,this]
def Dd(ops:List Oper)(cls:List Nat)(ks:List Nat)(i:Nat):List Nat :=
 match ap (ks.getD i 0) 1 with
 | true =>
  let n:=ops.length
  let a1:=((fT n).filter fun w=>ap (ks.getD w 0) 4&&kB cls i w).foldl (fun a w=>Nat.max a (w+1)) 0
  let a0:=(((fT i).filter fun k=>je a1 k&&(ap (ks.getD k 0) 2||ap (ks.getD k 0) 4)&&!kB cls i k).head?).getD i
  a0::((fT n).filter fun w=>ap (ks.getD w 0) 4&&!comp cls i w).map (·+1)
 | false=>[]
def CE(l:List Oper)(cls ks:List Nat)(alts:Nat->List Nat):Bool :=
 let D:=EW l
 let n:=l.length
 BT l.toArray&&zp l 0 &&
 G0 (fun i o=>ap (cls.getD i 0) (Bx cls (aft o))&&ap (ks.getD i 0) (fL o.op)) 0 l &&
 G0 (fun i o=>(qo l.toArray o).all fun t=>!iV D t||G0 (fun k p=>match p.dst with
  | some d=>!ap d t||ap k i||comp cls i k
  | ab=>true) 0 l) 0 l &&
 G0 (fun i o=>match ap (ks.getD i 0) 2 with
  | true=>o.guard.isNone
  | false=>match ap (ks.getD i 0) 4 with
   | true=>(fT n).all fun j=>ap i j||aM (ks.getD j 0) 2||comp cls i j
   | false=>match ap (ks.getD i 0) 3 with
    | true=>(fT n).all fun j=>!ap (ks.getD j 0) 2||comp cls i j
    | false=>match ap (ks.getD i 0) 1 with
     | true=>((fT n).all fun w=>!ap (ks.getD w 0) 4||comp cls i w||(alts i).contains (w+1)) &&
      (alts i).any fun a=>je a i&&((fT n).all fun w=>!ap (ks.getD w 0) 4||!kB cls i w||aM w a) &&
       (fT a).all fun k=>aM (ks.getD k 0) 2||ap (ks.getD k 0) 3||kB cls i k
     | false=>true) 0 l
def pW{a b:Bool}(h:(!a||b)=true)(c:a=true):b=true:=by subst c;simpa using h
def Gm{l:List Oper}(h:CE l cls ks alts=true):pI l.toArray cls alts:=by
 simp only[CE,au]at h;obtain⟨⟨⟨⟨D,E⟩,F⟩,G⟩,H⟩:=h;have C:=tw F;have I:=tw G;have s:=tw H;have get:∀(i:Nat) (o:Oper),l.toArray[i]? = some o->l[i]? = some o:=fun i o b=>by simpa using b
 have dAtE:∀i,AA l.toArray i=(l[i]?).bind (·.dst):=fun i=>by unfold AA;simp
 have lt:∀(i:Nat) (o:Oper),l[i]? = some o->i<l.length:=fun i o b=>(dX.1 b).1;have ksE:∀(i:Nat) (o:Oper),l[i]? = some o->ks.getD i 0=fL o.op:=fun i o b=>by
  have:=C i o b;simp only[au,aB]at this;exact ak this.2
 have kE:∀(i:Nat) (o:Oper),l[i]? = some o->ns l.toArray i=ks.getD i 0:=fun i o b=>by rw[ksE i o b];exact td (by simpa using b)
 have kS:∀i,ns l.toArray i≠0->∃o,l[i]? = some o/\i<l.length/\ns l.toArray i=ks.getD i 0:=fun i m=>by
  obtain⟨o,b,J⟩:=Me m;exact⟨o,get i o b,by simpa using J,kE i o (get i o b)⟩
 refine⟨D,fun i o k b f=>?_,fun i j d m v=>?_,fun i o t k b K y c=>?_,fun i j z m v=>?_,fun i j m v=>?_,fun i o b f=>?_,fun i w m L M=>?_,fun i m=>?_⟩
 .have:=C i o (get i o b);simp only[au,aB]at this;have e:=ak this.1;unfold kB bit at f;rw[e]at f;exact Bw f
 .rw[dAtE]at m v;exact(uZ E).2 i j d m v
 .have:=I i o (get i o b);simp only[aB,aE]at this;have:=this t K;rw[dAtE]at c;have:=pW this (EU c)
  cases n:l[k]? with
  | none=>rw[n]at c;simp at c
  | some p =>
   rw[n]at c;simp only[dp]at c;have:=tw this k p n;simp only[aB]at this;rw[c]at this;simp only[gj,kR]at this;rcases this with (e|e)|e
   .simp at e
   .exact(y (ak e)).elim
   .exact e
 .obtain⟨o,b,q,f⟩:=kS i om;obtain⟨p,x,r,A⟩:=kS j om;have:=s i o b;simp only[aB]at this;rw[(om:ks.getD i 0=4)]at this
  simp only[aE]at this;have:=this j (iY.2 r);simp only[gj]at this;rcases this with (e|e)|e
  .exact(z (ak e)).elim
  .have:ks.getD j 0<2:=by simpa [nT]using e
   omega
  .exact e
 .obtain⟨o,b,q,f⟩:=kS i om;obtain⟨p,x,r,A⟩:=kS j om;have:=s i o b;simp only[aB]at this;rw[(om:ks.getD i 0=3)]at this
  simp only[aE]at this;have:=this j (iY.2 r);exact pW this (by rw[(om:ks.getD j 0=2)];rfl)
 .have:=s i o (get i o b);simp only[aB]at this;rw[ksE i o (get i o b),f]at this;simpa using this
 .obtain⟨o,b,q,f⟩:=kS i om;obtain⟨p,x,g,u⟩:=kS w om;have:=s i o b;simp only[aB]at this;rw[(om:ks.getD i 0=1)]at this
  simp only[au]at this;have:=aE.1 this.1 w (iY.2 g);rw[(om:ks.getD w 0=4),M]at this
  simpa using this
 .obtain⟨o,b,q,f⟩:=kS i om;have:=s i o b;simp only[aB]at this;rw[(om:ks.getD i 0=1)]at this
  simp only[au]at this;obtain⟨a,N,e⟩:=Tt.1 this.2;simp only[au,aE]at e;obtain⟨⟨O,P⟩,Q⟩:=e;refine⟨a,N,cf O,fun w L R=>?_,fun k B S T=>?_⟩
  .obtain⟨p,x,g,u⟩:=kS w om;have:=P w (iY.2 g);rw[(om:ks.getD w 0=4),R]at this
   simpa [nT]using this
  .obtain⟨p,x,g,u⟩:=kS k om;have:=Q k (iY.2 B);simp only[gj]at this;rcases this with (e|e)|e
   .have:ks.getD k 0<2:=by simpa [nT]using e
    omega
   .have:=ak e;omega
   .exact e
end

noncomputable section
def tput(te:TE)(d:Option Nat)(v:XV):TE:=match d with
 | some d=>yu te d v
 | ab=>te
def Lo(te:TE)(d:Option Nat)(v:XV)(t:Nat):jF (tput te d v) t=if d=some t then v else jF te t:=by
 cases d with
 | none=>simp[tput]
 | some d =>
  simp only[tput,mb];by_cases e:t=d
  .subst e;simp
  .rw[af e,af (fun a=>e (ku a).symm)]
def TR.tput(h:TR φ te O){d:Option Nat}{v:XV}{z:AV}(a:ER φ v z):TR φ (tput te d v) (O.put d z):=by
 cases d with
 | none=>rw[LH];exact h
 | some d=>exact h.put a
def QY(call:d9)(ops:Array Oper)(o:Oper)(te:TE)(nx:Nat)(l:EL):XR:=match o.guard with
 | ab=>AR call o te nx l
 | some (j,want)=>match uW ops te j with
  | .bool b=>if b=want then AR call o te nx l else some (.any,nx,l)
  | _=>ab
def QX{call:d9}(n:mD call){ops:Array Oper}{o:Oper}{te:TE}{nx:Nat}{l:EL}{r:XV×Nat×EL}(h:QY call ops o te nx l=some r){φ:Ph}(q:GP φ){O:Tm}{S:St}(a:TR φ te O)(c:MR φ l S){K:Tm->St->Prop}
  (f:∀ψ z S',φ.le ψ->ER ψ r.1 z->MR ψ r.2.2 S'->K (O.put o.dst z) S'):Di ops o O S K:=by
 unfold QY at h;unfold Di
 cases s:o.guard with
 | none =>
  rw[s]at h;exact Cd n h q a c fun ψ z S' g i k=>f ψ z S' g i k
 | some p =>
  obtain⟨j,want⟩:=p;rw[s]at h;dsimp only at h ⊢;have m:ER φ (uW ops te j) (DD ops O j):=by
   unfold uW DD
   cases (ops[j]?).bind (·.dst)with
   | none=>simp[ER]
   | some d=>exact a d
  cases t:uW ops te j<;>rw[t]at h<;>try cases h
  rename_i b;rw[t]at m;simp only[ER]at m;rw[m];dsimp only at h ⊢;refine⟨fun e=>?_,fun e=>?_⟩
  .rw[ai e]at h;exact Cd n h q a c fun ψ z S' g i k=>f ψ z S' g i k
  .rw[af (by rw[e];cases want<;>simp)]at h
   cases h
   exact f φ .any S (Ph.le_refl _) (by simp[ER]) c
def qf(call:d9)(ops:Array Oper)(L:List Oper):TE->Nat->EL->Option (TE×Nat×EL):=List.rec (motive:=fun _=>TE->Nat->EL->Option (TE×Nat×EL)) (fun te nx l=>some (te,nx,l))
 (fun o _ ih te nx l=>Option.rec ab (fun p=>Prod.rec (fun v q=>Prod.rec (fun nx' l'=>ih (tput te o.dst v) nx' l') q) p) (QY call ops o te nx l)) L
def FV(call:d9)(ops:Array Oper)(te:TE)(nx:Nat)(l:EL):qf call ops [] te nx l=some (te,nx,l):=rfl
def DY(call:d9)(ops:Array Oper)(o:Oper)(r:List Oper)(te:TE)(nx:Nat)(l:EL):qf call ops (o::r) te nx l=match QY call ops o te nx l with
  | some (v,nx',l')=>qf call ops r (tput te o.dst v) nx' l'
  | ab=>ab:=by
 show Option.rec (motive:=fun _=>Option (TE×Nat×EL)) ab (fun p=>Prod.rec (motive:=fun _=>Option (TE×Nat×EL)) (fun v q=>Prod.rec (motive:=fun _=>Option (TE×Nat×EL)) (fun nx' l'=>qf call ops r (tput te o.dst v) nx' l') q) p) (QY call ops o te nx l)=_
 cases QY call ops o te nx l<;>rfl
theorem AT{call:d9}(g:mD call){ops:Array Oper}:∀{L:List Oper} {te:TE} {nx:Nat} {l:EL} {r:TE×Nat×EL},qf call ops L te nx l=some r->∀{φ:Ph},GP φ->∀{O:Tm} {S:St},TR φ te O->MR φ l S->∀{K:Tm->St->Prop},
  (∀ψ O' S',φ.le ψ->TR ψ r.1 O'->MR ψ r.2.2 S'->K O' S')->Fh ops L O S K
 | [],te,nx,l,r,h,φ,b,O,S,a,c,K,d=>by
  rw[FV]at h;cases h;exact d φ O S (Ph.le_refl _) a c
 | o::L,te,nx,l,r,h,φ,b,O,S,a,c,K,d=>by
  rw[DY]at h
  cases e:QY call ops o te nx l with
  | none=>rw[e]at h;cases h
  | some p =>
   obtain⟨v,nx',l'⟩:=p;rw[e]at h;have:=QX g e b a c (K:=fun O S=>Fh ops L O S K) fun ψ z S' f i j=>AT g h (b.mono f) ((a.mono f).tput i) j fun χ O' S'' k m n=>d χ O' S'' (Ph.le_trans f k) m n;unfold Fh;unfold Di at this;exact this
def AU(call:d9)(ops:Array Oper)(L:List Oper):TE->Nat->EL->Option (TE×Nat×EL):=List.rec (motive:=fun _=>TE->Nat->EL->Option (TE×Nat×EL)) (fun te nx l=>some (te,nx,l))
 (fun o _ ih te nx l=>Option.rec ab (fun p=>Prod.rec (fun v q=>Prod.rec (fun nx' l'=>ih (tput te o.dst v) nx' l') q) p) (xg call ops o te nx l)) L
def Jd(call:d9)(ops:Array Oper)(te:TE)(nx:Nat)(l:EL):AU call ops [] te nx l=some (te,nx,l):=rfl
def FU(call:d9)(ops:Array Oper)(o:Oper)(r:List Oper)(te:TE)(nx:Nat)(l:EL):AU call ops (o::r) te nx l=match xg call ops o te nx l with
  | some (v,nx',l')=>AU call ops r (tput te o.dst v) nx' l'
  | ab=>ab:=by
 show Option.rec (motive:=fun _=>Option (TE×Nat×EL)) ab (fun p=>Prod.rec (motive:=fun _=>Option (TE×Nat×EL)) (fun v q=>Prod.rec (motive:=fun _=>Option (TE×Nat×EL)) (fun nx' l'=>AU call ops r (tput te o.dst v) nx' l') q) p) (xg call ops o te nx l)=_
 cases xg call ops o te nx l<;>rfl
structure SK where
 te:TE
 nx:Nat
 l:EL
 v:XV
variable{R:List SK}
def KW(call:d9)(ops:Array Oper):List Oper->TE->Nat->EL->Option (List SK)
 | [],te,nx,l=>some [⟨te,nx,l,.any⟩]
 | o::r,te,nx,l=>match xg call ops o te nx l with
  | some (v,nx',l')=>(match KW call ops r (tput te o.dst v) nx' l' with
   | some L=>some (⟨te,nx,l,v⟩::L)
   | ab=>ab)
  | ab=>ab
def ji:SK:=⟨.e,0,.e,.any⟩
theorem xZ{call:d9}{ops:Array Oper}:∀{L:List Oper} {te:TE} {nx:Nat} {l:EL} {R:List SK},KW call ops L te nx l=some R->R.length=L.length+1/\(R.getD 0 ji).te=te/\(R.getD 0 ji).nx=nx/\(R.getD 0 ji).l=l /\
  ∀(i:Nat) (o:Oper),L[i]? = some o->xg call ops o (R.getD i ji).te (R.getD i ji).nx (R.getD i ji).l=some ((R.getD i ji).v,(R.getD (i+1) ji).nx,(R.getD (i+1) ji).l)/\(R.getD (i+1) ji).te=tput (R.getD i ji).te o.dst (R.getD i ji).v
 | [],te,nx,l,R,h=>by
  simp only[KW]at h;cases h;exact⟨rfl,rfl,rfl,rfl,fun i o a=>by simp at a⟩
 | o::L,te,nx,l,R,h=>by
  simp only[KW]at h
  cases b:xg call ops o te nx l with
  | none=>rw[b]at h;cases h
  | some p =>
   obtain⟨v,nx',l'⟩:=p;rw[b]at h;dsimp only at h
   cases c:KW call ops L (tput te o.dst v) nx' l' with
   | none=>rw[c]at h;cases h
   | some R' =>
    rw[c]at h
    cases h
    obtain⟨d,e,f,g,j⟩:=xZ c;refine⟨by simp[d],rfl,rfl,rfl,fun i o' a=>?_⟩
    cases i with
    | zero =>
     simp at a;subst a;simp only[bI,aB,bB,e,f,g];exact⟨b,trivial⟩
    | succ i =>
     simp only[bB];exact j i o' (by simpa using a)
theorem AS{call:d9}{ops:Array Oper}:∀{L:List Oper} {te:TE} {nx:Nat} {l:EL} {r:TE×Nat×EL},AU call ops L te nx l=some r->∃R,KW call ops L te nx l=some R/\(R.getD L.length ji).te=r.1/\(R.getD L.length ji).nx=r.2.1/\(R.getD L.length ji).l=r.2.2
 | [],te,nx,l,r,h=>by
  rw[Jd]at h;cases h;exact⟨_,rfl,rfl,rfl,rfl⟩
 | o::L,te,nx,l,r,h=>by
  rw[FU]at h
  cases a:xg call ops o te nx l with
  | none=>rw[a]at h;cases h
  | some p =>
   obtain⟨v,nx',l'⟩:=p;rw[a]at h;obtain⟨R,b,c⟩:=AS h;refine⟨⟨te,nx,l,v⟩::R,by simp only[KW,a,b],?_⟩
   simpa using c
def I8{call:d9}(h:KW call ops ops.toList te nx l=some R):qJ call ops (fun i=>(R.getD i ji).te) (fun i=>(R.getD i ji).nx) (fun i=>(R.getD i ji).l) (fun i=>(R.getD i ji).v):=by
 obtain⟨_,_,_,_,k⟩:=xZ h;refine⟨fun i o a=>(k i o (by simpa using a)).1,fun i o t a=>?_⟩
 show jF (R.getD (i+1) ji).te t=_;rw[(k i o (by simpa using a)).2,Lo]
def DW(call:d9)(ops:Array Oper)(R:List SK)(alts:Nat->List Nat):Nat->List Oper->Bool
 | _,[]=>true
 | i,o::r=>(match ap (fL o.op) 1 with
  | true=>(alts i).all fun a=>ap a i||(match xg call ops o (R.getD i ji).te 0 (R.getD a ji).l with
   | some (v,_,_)=>lE v (R.getD i ji).v
   | ab=>false)
  | false=>true)&&DW call ops R alts (i+1) r
theorem DV{call:d9}{ops:Array Oper}{R:List SK}{alts:Nat->List Nat}:∀{L:List Oper} {k:Nat},DW call ops R alts k L=true->∀(i:Nat) (o:Oper) (a:Nat),L[i]? = some o->fL o.op=1->a∈alts (k+i)->a=k+i∨∃r,xg call ops o (R.getD (k+i) ji).te 0 (R.getD a ji).l=some r/\r.1=(R.getD (k+i) ji).v
 | [],_,_,i,o,a,b,_,_=>by simp at b
 | x::L,k,h,i,o,a,b,d,g=>by
  simp only[DW,au]at h
  cases i with
  | zero =>
   simp at b;subst b;have c:=h.1;rw[d]at c;simp only[aE]at c;have:=c a g;simp only[gj]at this;rcases this with e|e
   .exact bM (ak e)
   .right;simp only[cu]at e ⊢
    cases f:xg call ops x (R.getD k ji).te 0 (R.getD a ji).l with
    | none=>rw[f]at e;cases e
    | some r =>
     rw[f]at e;exact⟨r,rfl,zJ _ _ e⟩
  | succ i =>
   have:=DV h.2 i o a (by simpa using b) d (by rwa [(om:k+1+i=k+(i+1))])
   rwa [(om:k+1+i=k+(i+1))]at this
structure Reg where
 cls:List Nat
 alts:Nat->List Nat
 easy:Bool
def sP(l:List Oper):Reg :=
 let c:=BM l []
 let ks:=l.map fun o=>fL o.op
 let al:=(fT l.length).map (Dd l c ks)
 ⟨c,fun i=>al.getD i [],al.zipIdx.all fun p=>p.1.all fun a=>ap a p.2⟩
def Lz(l:List Oper):Bool:=CE l (BM l []) (l.map fun o=>fL o.op) (sP l).alts
def DR(call:d9)(hard:Bool)(ops:Array Oper)(te:TE)(nx:Nat)(l:EL):Option (TE×Nat×EL):=match hard with
 | false=>AU call ops ops.toList te nx l
 | true=>match KW call ops ops.toList te nx l with
  | some R=>(match DW call ops R (sP ops.toList).alts 0 ops.toList with
   | true=>some ((R.getD ops.toList.length ji).te,(R.getD ops.toList.length ji).nx,(R.getD ops.toList.length ji).l)
   | false=>ab)
  | ab=>ab
def Pa{l:List Oper}(h:(sP l).easy=true):∀i a,a∈(sP l).alts i->a=i:=by
 intro i a e;have d:(((fT l.length).map (Dd l (BM l []) (l.map fun o=>fL o.op))).zipIdx.all fun p=>p.1.all fun a=>ap a p.2)=true:=h;have b:a∈((fT l.length).map (Dd l (BM l []) (l.map fun o=>fL o.op))).getD i []:=e;generalize (fT l.length).map (Dd l (BM l []) (l.map fun o=>fL o.op))=al at d b;rw[gO]at b
 cases c:al[i]? with
 | none=>rw[c]at b;simp at b
 | some x =>
  rw[c]at b;have:=aE.1 d (x,i) (List.mk_mem_zipIdx_iff_getElem?.2 c);have:=aE.1 this a b;exact ak this
def KX{call:d9}(w:mD call)(x:tN call){b:Bool}{ops:Array Oper}(d:Lz ops.toList=true)(y:(b||(sP ops.toList).easy)=true){te:TE}{nx:Nat}{l:EL}{r:TE×Nat×EL}(h:DR call b ops te nx l=some r){φ:Ph}(z:GP φ){O:Tm}{S:St}(A:TR φ te O)(B:MR φ l S){K:Tm->St->Prop}
  (C:∀ψ O' S',φ.le ψ->TR ψ r.1 O'->MR ψ r.2.2 S'->K O' S'):awI ops O S K:=by
 have D:=Gm d;have main:∀R,KW call ops ops.toList te nx l=some R->(R.getD ops.toList.length ji).te=r.1->(R.getD ops.toList.length ji).l=r.2.2->(∀(i:Nat) (o:Oper) a,ops[i]? = some o->fL o.op=1->a∈(sP ops.toList).alts i->∃nx,xg call ops o (R.getD i ji).te nx (R.getD a ji).l=some ((R.getD i ji).v,nx,(R.getD a ji).l))->awI ops O S K:=by
  intro R s E F m;obtain⟨L,G,M,H,N⟩:=xZ s;refine Oj w x D (I8 s) m z (by show TR φ (R.getD 0 ji).te O;rw[G];exact A) (by show MR φ (R.getD 0 ji).l S;rw[H];exact B) fun ψ O' S' c f t=>C ψ O' S' c ?_ ?_
  .rw[<-E];exact f
  .rw[<-F];exact t
 unfold DR at h
 cases b with
 | false =>
  have I:(sP ops.toList).easy=true:=y;obtain⟨R,c,f,t,J⟩:=AS h;refine main R c f J fun i o a n g u=>?_;obtain rfl:=Pa I i a u;have:=((xZ c).2.2.2.2 a o (by simpa using n)).1
  have e:=(sE g this).1;simp only[gM]at e;rw[e.1,e.2]at this;exact⟨_,this⟩
 | true =>
  dsimp only at h
  cases k:KW call ops ops.toList te nx l with
  | none=>rw[k]at h;cases h
  | some R =>
   rw[k]at h;dsimp only at h
   cases q:DW call ops R (sP ops.toList).alts 0 ops.toList with
   | false=>rw[q]at h;cases h
   | true =>
    rw[q]at h
    cases h
    refine main R k rfl rfl fun i o a n g u=>?_;have j:ops.toList[i]? = some o:=by simpa using n
    have:=DV q i o a j g (by rwa [aB])
    rw[aB]at this;rcases this with rfl|⟨p,c,f⟩
    .have:=((xZ k).2.2.2.2 a o j).1;have e:=(sE g this).1;simp only[gM]at e;rw[e.1,e.2]at this;exact⟨_,this⟩
    .have e:=(sE g c).1;refine⟨0,?_⟩;rw[c];obtain⟨P,Q,T⟩:=p;simp only[gM]at e;rw[e.1,e.2,<-f]
inductive XE where
 | normal
 | ret
 | exit (id:Nat)
def XE.ax:XE->AX
 | .normal=>.normal
 | .ret=>.ret
 | .exit i=>.exit i
abbrev XC:=Option (XE×TE×Nat×EL)
def xn:Option (TE×Nat×EL)->XC
 | some r=>some (.normal,r)
 | ab=>ab
abbrev R1:=Code->TE->Nat->EL->XC
def Hw(r:XC)(k:TE->Nat->EL->XC):XC:=match r with
 | some (e,q)=>(match e with
  | .normal=>k q.1 q.2.1 q.2.2
  | .ret=>some (.ret,q)
  | .exit i=>some (.exit i,q))
 | ab=>ab
def FZ(id:Nat)(r:XC):XC:=match r with
 | some (e,q)=>(match e with
  | .normal=>some (.normal,q)
  | .ret=>some (.ret,q)
  | .exit i=>(match ap i id with
   | true=>some (.normal,q)
   | false=>some (.exit i,q)))
 | ab=>ab
def P3(b:XV)(x y:XC):XC:=match b with
 | .bool t=>(match t with
  | true=>x
  | false=>y)
 | _=>ab
def P1(call:d9)(hm:Nat)(ih:R1)(c:Code):TE->Nat->EL->XC:=match c with
 | .skip=>fun te nx l=>some (.normal,te,nx,l)
 | .region id ops b=>(match b with
  | false=>fun te nx l=>xn (qf call ops ops.toList te nx l)
  | true=>fun te nx l=>xn (DR call (iV hm id) ops te nx l))
 | .seq x y=>fun te nx l=>Hw (ih x te nx l) (ih y)
 | .cond b x y=>fun te nx l=>P3 (kI te b) (ih x te nx l) (ih y te nx l)
 | .block id c=>fun te nx l=>FZ id (ih c te nx l)
 | .loop c=>fun te nx l=>Hw (ih c te nx l) (ih (.loop c))
 | .exit id=>fun te nx l=>some (.exit id,te,nx,l)
 | .ret=>fun te nx l=>some (.ret,te,nx,l)
 | .scope c=>ih c
 | .label _=>fun te nx l=>some (.normal,te,nx,l)
 | _=>fun _ _ _=>ab
def l9(call:d9)(hm:Nat)(n:Nat):R1:=Nat.rec (motive:=fun _=>R1) (fun _ _ _ _=>ab) (fun _ ih=>P1 call hm ih) n
def yb(call:d9)(a:Nat)(c:Code)(te:TE)(nx:Nat)(l:EL):l9 call a 0 c te nx l=ab:=rfl
def ia(call:d9)(a n:Nat)(c:Code)(te:TE)(nx:Nat)(l:EL):l9 call a (n+1) c te nx l=P1 call a (l9 call a n) c te nx l:=rfl
def kl(hm:Nat):Code->Bool
 | .region id ops true=>Lz ops.toList&&(iV hm id||(sP ops.toList).easy)
 | .seq x y=>kl hm x&&kl hm y
 | .cond _ x y=>kl hm x&&kl hm y
 | .block _ c=>kl hm c
 | .loop c=>kl hm c
 | .scope c=>kl hm c
 | _=>true
def ob{P:Nat->Prop}(h:∃n,P n):∃n,P n/\∀m,m<n->¬P m:=by
 obtain⟨n,c⟩:=h
 induction n using jx with
 | ind n ih =>
  by_cases h:∃m,m<n/\P m
  .obtain⟨m,a,b⟩:=h;exact ih m a b
  .exact⟨n,c,fun m a b=>h ⟨m,a,b⟩⟩
def J9(J:Nat->Tm->St->Prop)(h:∀n O S,J n O S->∀k:Tm->St->Prop,(∀m O' S',m<n->J m O' S'->k O' S')->aw c (AX.seq k Q) O S){n:Nat}{O:Tm}{S:St}(g:J n O S):aw (.loop c) Q O S:=by
 classical
 refine⟨fun O S=>∃n,J n O S,fun O S=>if h:∃n,J n O S then c9 (ob h)else 0,⟨n,g⟩,fun O S b=>?_⟩
 have i:=cS (ob b);have e:(if h:∃n,J n O S then c9 (ob h)else 0)=c9 (ob b):=by rw[Ti b]
 refine h _ O S i.1 _ fun m O' S' j d=>⟨⟨m,d⟩,?_⟩;have a:∃n,J n O' S':=⟨m,d⟩;have e':(if h:∃n,J n O' S' then c9 (ob h)else 0)=c9 (ob a):=by rw[Ti a]
 show(if h:∃n,J n O' S' then c9 (ob h)else 0)<(if h:∃n,J n O S then c9 (ob h)else 0)
 rw[e,e'];have:=(cS (ob a)).2;rcases aA m (c9 (ob a))with f|f
 .exact(this m f d).elim
 .omega
def Le{call:d9}(F:mD call)(G:tN call)(a:Nat):∀(n:Nat) (c:Code) (te:TE) (nx:Nat) (l:EL) (r:XE×TE×Nat×EL),kl a c=true->l9 call a n c te nx l=some r->∀{φ:Ph},GP φ->∀{O:Tm} {S:St},TR φ te O->MR φ l S->∀{Q:AX->Tm->St->Prop},
  (∀ψ O' S',φ.le ψ->TR ψ r.2.1 O'->MR ψ r.2.2.2 S'->Q r.1.ax O' S')->aw c Q O S:=by
 intro n
 induction n using jx with
 | ind n A =>
 cases n with
 | zero=>intro c te nx l r _ h;rw[yb]at h;cases h
 | succ n =>
  have ih:=A n om;intro c te nx l r d h φ w O S o q Q f
  cases c with
  | skip=>rw[ia]at h;cases h;exact f φ O S (Ph.le_refl _) o q
  | region id ops b =>
   cases b with
   | false =>
    rw[ia]at h;change xn (qf call ops ops.toList te nx l)=some r at h
    cases g:qf call ops ops.toList te nx l with
    | none=>rw[g]at h;cases h
    | some p =>
     rw[g]at h;cases h;exact AT F g w o q f
   | true =>
    rw[ia]at h;change xn (DR call (iV a id) ops te nx l)=some r at h;simp only[kl,au]at d
    cases g:DR call (iV a id) ops te nx l with
    | none=>rw[g]at h;cases h
    | some p =>
     rw[g]at h;cases h;exact bO (KX F G d.1 d.2 g w o q f)
  | seq x y =>
   rw[ia]at h;change Hw (l9 call a n x te nx l) (l9 call a n y)=some r at h;simp only[kl,au]at d;simp only[aw]
   cases g:l9 call a n x te nx l with
   | none=>rw[g]at h;cases h
   | some p =>
    obtain⟨e,te',nx',l'⟩:=p;rw[g]at h;refine ih x te nx l _ d.1 g w o q fun ψ O' S' j s u=>?_
    cases e with
    | normal=>exact ih y te' nx' l' r d.2 h (w.mono j) s u fun χ O'' S'' B C D=>f χ O'' S'' (Ph.le_trans j B) C D
    | ret=>cases h;exact f ψ O' S' j s u
    | exit i=>cases h;exact f ψ O' S' j s u
  | cond b x y =>
   rw[ia]at h;change P3 (kI te b) (l9 call a n x te nx l) (l9 call a n y te nx l)=some r at h;simp only[kl,au]at d;simp only[aw];have E:=o.ev b
   cases z:kI te b with
   | bool t =>
    rw[z]at h E;simp only[ER]at E;rw[E]
    cases t with
    | true=>exact⟨fun _=>ih x te nx l r d.1 h w o q f,fun e=>by cases e⟩
    | false=>exact⟨fun e=>(by cases e),fun _=>ih y te nx l r d.2 h w o q f⟩
   | _=>rw[z]at h;cases h
  | block id c =>
   rw[ia]at h;change FZ id (l9 call a n c te nx l)=some r at h;simp only[kl]at d;simp only[aw]
   cases g:l9 call a n c te nx l with
   | none=>rw[g]at h;cases h
   | some p =>
    obtain⟨e,p⟩:=p;rw[g]at h;refine ih c te nx l _ d g w o q fun ψ O' S' j s u=>?_
    cases e with
    | normal=>cases h;exact f ψ O' S' j s u
    | ret=>cases h;exact f ψ O' S' j s u
    | exit i =>
     simp only[FZ]at h;show(if i=id then Q .normal else Q (.exit i)) O' S'
     cases z:ap i id with
     | true =>
      rw[z]at h;cases h;rw[ai (ak z)];exact f ψ O' S' j s u
     | false =>
      rw[z]at h;cases h;rw[af (fun e=>by subst e;simp at z)]
      exact f ψ O' S' j s u
  | loop c =>
   simp only[kl]at d;refine J9 (fun m O S=>m<=n+1/\∃ψ te nx l,φ.le ψ/\TR ψ te O/\MR ψ l S/\l9 call a m (.loop c) te nx l=some r) ?_ (n:=n+1) ⟨ae _,φ,te,nx,l,Ph.le_refl _,o,q,h⟩;rintro m O S ⟨H,ψ,te,nx,l,j,s,u,v⟩ k I
   cases m with
   | zero=>rw[yb]at v;cases v
   | succ m =>
    rw[ia]at v;change Hw (l9 call a m c te nx l) (l9 call a m (.loop c))=some r at v
    cases g:l9 call a m c te nx l with
    | none=>rw[g]at v;cases v
    | some p =>
     obtain⟨e,te',nx',l'⟩:=p;rw[g]at v;have body:∀{Q:AX->Tm->St->Prop},(∀χ O' S',ψ.le χ->TR χ te' O'->MR χ l' S'->Q e.ax O' S')->aw c Q O S:=by
      intro Q f;exact A m om c te nx l _ d g (w.mono j) s u f
     refine body fun χ O' S' B C D=>?_
     cases e with
     | normal=>exact I m O' S' om ⟨om,χ,te',nx',l',Ph.le_trans j B,C,D,v⟩
     | ret=>cases v;exact f χ O' S' (Ph.le_trans j B) C D
     | exit i=>cases v;exact f χ O' S' (Ph.le_trans j B) C D
  | exit id=>rw[ia]at h;cases h;exact f φ O S (Ph.le_refl _) o q
  | ret=>rw[ia]at h;cases h;exact f φ O S (Ph.le_refl _) o q
  | scope c =>
   rw[ia]at h;change l9 call a n c te nx l=some r at h;simp only[kl]at d;simp only[aw];exact ih c te nx l r d h w o q f
  | label _=>rw[ia]at h;cases h;exact f φ O S (Ph.le_refl _) o q
  | _=>rw[ia]at h;cases h
end

def nb(z:Int)(k:Nat):Prop:=z.natAbs<2^k
def nb.mono(h:nb z k)(a:k<=j):nb z j:=dr h (bZ om a)
def nb.nl{N:Nat}(h:nb z k)(a:k<=32*N):nl z.natAbs<=N:=by
 rw[jL,yL];exact h.mono a
def nb.add(c:nb a k)(d:nb b k):nb (a+b) (k+1):=by
 unfold nb at *;rw[bQ];omega
def nb.sub(c:nb a k)(d:nb b k):nb (a-b) (k+1):=by
 unfold nb at *;rw[bQ];omega
def nb.mul(c:nb a k)(d:nb b j):nb (a*b) (k+j):=by
 unfold nb at *;rw[cY,fv];exact Nat.mul_lt_mul_of_lt_of_lt c d
def nb.neg(b:nb a k):nb (-a) k:=by unfold nb at *;omega
def nb.zero(k:Nat):nb 0 k:=iq om
def nb.one(h:0<k):nb 1 k:=dr (by decide:1<2^1) (bZ om h)
def nb.of_le(h:a.natAbs<=b.natAbs)(c:nb b k):nb a k:=dR h c
def Sx(h:∀va vb B w,B<=w.heap.size->er w B va za->er w B vb zb->Calls ah f #[va,vb] w (dD w z)):PF f [.big za,.big zb] (.big z):=BZ.pf rfl (Ra h)
def pf1(h:∀va B w,B<=w.heap.size->er w B va za->Calls ah f #[va] w (dD w z)):PF f [.big za] (.big z):=BZ.pf rfl (Rb h)
def pf1i{k:IntKind}(h:∀va B w,B<=w.heap.size->er w B va za->Calls ah f #[va] w fun e w'=>e=.returned (.int k z)/\Below w.heap.size w w'):PF f [.big za] (.int k z):=by
 intro w vs _ a
 match vs,a with
 | [va],a =>
  simp only[aW,bn]at a;refine(h va w.heap.size w (ae _) a.1).mono ?_;rintro e w' ⟨rfl,b⟩;exact⟨_,rfl,by simp[bn],dl.below b⟩
 | [],a=>simp[aW]at a
 | _::_::_,a=>simp[aW]at a
def pf2i{k:IntKind}(h:∀va vb B w,B<=w.heap.size->er w B va za->er w B vb zb->Calls ah f #[va,vb] w fun e w'=>e=.returned (.int k z)/\Below w.heap.size w w'):PF f [.big za,.big zb] (.int k z):=by
 intro w vs _ a
 match vs,a with
 | [va,vb],a =>
  simp only[aW,bn]at a;refine(h va vb w.heap.size w (ae _) a.1 a.2.1).mono ?_;rintro e w' ⟨rfl,b⟩;exact⟨_,rfl,by simp[bn],dl.below b⟩
 | [],a=>simp[aW]at a
 | [_],a=>simp[aW]at a
 | _::_::_::_,a=>simp[aW]at a
def Im(h:∀w,Calls ah f #[.int .i64 z] w (dD w z)):PF f [.int .i64 z] (.big z):=by
 intro w vs _ a
 match vs,a with
 | [va],a =>
  simp only[aW,bn]at a;obtain⟨rfl,_⟩:=a;refine(h w).mono ?_;rintro e w' ⟨v,rfl,b,c⟩;exact⟨v,rfl,by simpa [bn]using b,dl.below c⟩
 | [],a=>simp[aW]at a
 | _::_::_,a=>simp[aW]at a
def In(h:∀va B w,B<=w.heap.size->er w B va z->Calls ah f #[va] w fun e w'=>e=.returned (.tuple #[.int .i64 z,.bool true])/\Below w.heap.size w w'):PF f [.big z] (.tup [.int .i64 z,.bool true]):=by
 intro w vs _ a
 match vs,a with
 | [va],a =>
  simp only[aW,bn]at a;refine(h va w.heap.size w (ae _) a.1).mono ?_;rintro e w' ⟨rfl,b⟩;exact⟨_,rfl,by simp only[bn];exact⟨[_,_],rfl,by simp[aW,bn]⟩,dl.below b⟩
 | [],a=>simp[aW]at a
 | _::_::_,a=>simp[aW]at a
def vk(c:nb a k)(d:nb b k)(h:k<=8589934592):PF 133 [.big a,.big b] (.big (a+b)):=Sx fun va vb B w e f g=>PZ va vb a b B w e f g (c.nl om) (d.nl om)
def Cr(c:nb a k)(d:nb b k)(h:k<=8589934592):PF 192 [.big a,.big b] (.big (a-b)):=Sx fun va vb B w e f g=>PH va vb a b B w e f g (c.nl om) (d.nl om)
def po(c:nb a k)(d:nb b k)(h:k<=8589934592):PF 83 [.big a,.big b] (.big (a*b)):=Sx fun va vb B w e f g=>PP va vb a b B w e f g (c.nl om) (d.nl om)
def rY(b:nb a k)(e:k<=8589934592):PF 193 [.big a] (.big (-a)):=pf1 fun va B w c d=>PO va a B w c d (b.nl om)
def qV(b:nb a k)(e:k<=8589934592):PF 157 [.big a] (.big a):=pf1 fun va B w c d=>AH va a B w c d (b.nl om)
def kG(b:nb a k)(e:k<=8589934592):PF 191 [.big a] (.int .i64 a.sign):=pf1i fun va B w c d=>zX va a B w c d (b.nl om)
def MI(c:nb a k)(d:nb b k)(h:k<=8589934592):PF 159 [.big a,.big b] (.int .i64 (lA a b)):=pf2i fun va vb B w e f g=>PW va vb a b B w e f g (c.nl om) (d.nl om)
def ky(b:-9223372036854775808<=a)(c:a<=9223372036854775807):PF 81 [.int .i64 a] (.big a):=Im fun w=>Ks a w b c
def zf(h:jS a):PF 84 [.big a] (.tup [.int .i64 a,.bool true]):=In fun va B w b c=>KC va a B w b c h
def JU(d:nb a k)(f:nb b k)(p:k<=8589934592)(g:b≠0)(i:a.natAbs<b.natAbs∨nb a 64):PF 82 [.big a,.big b] (.tup [.big (a/b),.big (a%b),.bool true]):=by
 intro w vs _ c
 match vs,c with
 | [va,vb],c =>
  simp only[aW,bn]at c;refine(Aa va vb a b w.heap.size w (ae _) c.1 c.2.1 (d.nl om) (f.nl om) g (i.imp id fun h=>bM (h.nl om))).mono ?_;rintro e w' ⟨j,l,rfl,m,n,o⟩;exact⟨_,rfl,by simp only[bn];exact⟨[j,l,.bool true],rfl,by simp only[aW,bn];exact⟨m,n,trivial,trivial⟩⟩,dl.below o⟩
 | [],c=>simp[aW]at c
 | [_],c=>simp[aW]at c
 | _::_::_::_,c=>simp[aW]at c
def GL(f:nb a k)(d:nb b 32)(n:k<=1000000)(g:b≠0):PF 82 [.big a,.big b] (.tup [.big (a/b),.big (a%b),.bool true]):=by
 intro w vs _ c
 match vs,c with
 | [va,vb],c =>
  simp only[aW,bn]at c;refine(Aa va vb a b w.heap.size w (ae _) c.1 c.2.1 (f.nl om) (d.nl om) g (.inr (.inr (d.nl om)))).mono ?_;rintro e w' ⟨h,i,rfl,j,l,m⟩;exact⟨_,rfl,by simp only[bn];exact⟨[h,i,.bool true],rfl,by simp only[aW,bn];exact⟨j,l,trivial,trivial⟩⟩,dl.below m⟩
 | [],c=>simp[aW]at c
 | [_],c=>simp[aW]at c
 | _::_::_::_,c=>simp[aW]at c
def Br(h:jS a):PF 72 [.big a] (.tup [.int .i64 a,.bool true]):=In fun va B w b c=>Dq va a B w b c h
def sS(c:nb a k)(d:nb b k)(h:k<=8589934592):PF 87 [.big a,.big b] (.big (a+b)):=Sx fun va vb B w e f g=>Cb va vb a b B w e f g (c.nl om) (d.nl om)
def sO(c:nb a k)(d:nb b k)(h:k<=8589934592):PF 66 [.big a,.big b] (.big (a-b)):=Sx fun va vb B w e f g=>Kr va vb a b B w e f g (c.nl om) (d.nl om)
def iX(c:nb a k)(d:nb b k)(h:k<=8589934592):PF 67 [.big a,.big b] (.big (a*b)):=Sx fun va vb B w e f g=>Ku va vb a b B w e f g (c.nl om) (d.nl om)
def xB(b:nb a k)(e:k<=8589934592):PF 68 [.big a] (.big (-a)):=pf1 fun va B w c d=>B3 va a B w c d (b.nl om)
def xC(b:nb a k)(e:k<=8589934592):PF 45 [.big a] (.big a.natAbs):=pf1 fun va B w c d=>KN va a B w c d (b.nl om)
def Em(b:nb a k)(e:k<=8589934592):PF 126 [.big a] (.big a):=pf1 fun va B w c d=>vA va a B w c d (b.nl om)
def jB(b:nb a k)(e:k<=8589934592):PF 64 [.big a] (.int .i64 a.sign):=pf1i fun va B w c d=>sj va a B w c d (b.nl om)
def pg(c:nb a k)(d:nb b k)(h:k<=8589934592):PF 30 [.big a,.big b] (.int .i64 (lA a b)):=pf2i fun va vb B w e f g=>KH va vb a b B w e f g (c.nl om) (d.nl om)
def gG(b:-9223372036854775808<=a)(c:a<=9223372036854775807):PF 29 [.int .i64 a] (.big a):=Im fun w=>Ft a w b c

def GG(a p:Nat)(w:World)(ha:a<1000000)(hp:p<1000000):Calls ah 124 #[.int .i64 a,.int .i64 p] w fun e w'=>e=.returned (.int .i64 (bz a p).1)/\dO w w':=by
 go_enter func124,ntmps124
 go_wp2
 go_loopw [0,1] (fun iv jv wr=>∃x y:Nat,iv=.int .i64 x/\jv=.int .i64 y/\x<1000000/\y<1000000/\Hid (dO w wr)/\Hid ((bz x y).1=(bz a p).1)) (fun _ jv _=>(intOf jv).toNat)
 case atStart=>exact⟨a,p,rfl,rfl,ha,hp,ac (dO.refl w),ac rfl⟩
 case round =>
  obtain⟨x,y,rfl,rfl,hx,hy,HQ,HD⟩:=hrel;by_cases h0:y=0
  .subst h0;have hr:=ac (show((x:Nat):Int)=(bz a p).1 by have:=HD.out;rw[mH]at this;exact this)
   go_wp2;go_ret;exact⟨by rw[hr.out];rfl,HQ.out⟩
  .have hyz:((y:Nat):Int)≠0:=om
   have hlt:=ac (dq x (gn h0));go_wp2
   go_quiet (fail)
   go_wp2;refine⟨⟨y,x%y,rfl,by rw[nU],hy,by have:=hlt.out;omega,ac (by repeat' (first|exact HQ.out|apply dO.more)),ac (by rw[<-HD.out,qY x h0])⟩,?_⟩
   have h2:=hlt.out;rw[<-nU];exact h2
def JQ(a p:Nat)(c:a<1000000)(d:p<1000000):PF 124 [.int .i64 a,.int .i64 p] (.int .i64 (bz a p).1):=by
 intro w vs _ b
 match vs,b with
 | [va,vb],b =>
  simp only[aW,bn]at b;obtain⟨rfl,rfl,_⟩:=b;refine(GG a p w c d).mono ?_;rintro e w' ⟨rfl,f⟩;exact⟨_,rfl,by simp[bn],dl.below (f.below _)⟩
 | [],b=>simp[aW]at b
 | [_],b=>simp[aW]at b
 | _::_::_::_,b=>simp[aW]at b

end Go.Proofs.YtdobfmlmenaajaaGreatDoor
