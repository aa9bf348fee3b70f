/-
  Lemmas for NeighbourRaw.
-/
import Derived.Test.YtdobfmlmenaajaaGreatDoorH14
namespace Go.Proofs.YtdobfmlmenaajaaGreatDoor
open Go.RowKit Tryz
open _root_.Classical renaming choose→dq
open _root_.List renaming range→gF
open _root_.Nat renaming beq→ap,blt→aN,testBit→jo,ble→jB,strongRecOn→jN
open _root_.Option renaming none→ab
open Tryz renaming prog→ah
set_option maxHeartbeats 6400000
set_option maxRecDepth 4096
set_option linter.all false
variable{Q:AX->Tm->St->Prop}{ops:Array Oper}{c:Code}{l:EL}{a b z za zb:Int}{cls ks:List Nat}{f i j k nx:Nat}{M:Nat->EL}{alts:Nat->List Nat}{N:Nat->Nat}{T:Nat->TE}{V:Nat->XV}{o:Oper}{φ:Ph}{S:St}{te:TE}{O:Tm}{r:XV×Nat×EL}
noncomputable section
theorem JL(te:TE):∀R:List Nat,∃te',∀t,jW te' t=if t∈R then jW te t else .any
 | []=>⟨.e,fun t=>by simp[sO]⟩
 | s::R=>by
  obtain⟨te',h⟩:=JL te R;refine⟨zt te' s (jW te s),fun t=>?_⟩;rw[mD,h];by_cases e:t=s
  .subst e;simp
  .rw[af e];simp[e]
def yY{call:eE}(b:nd call){ops:Array Oper}{o:Oper}{te:TE}{nx:Nat}{l:EL}{r:XV×Nat×EL}(h:xg call ops o te nx l=some r){φ:Ph}(c:GP φ){O:Tm}{S:St}(a:∀t∈rc ops o,ER φ (jW te t) (O t))(d:MR φ l S){K:Tm->St->Prop}
  (f:∀ψ z S',φ.le ψ->ER ψ r.1 z->MR ψ r.2.2 S'->K (O.put o.dst z) S'):Ef ops o O S K:=by
 obtain⟨te',h'⟩:=JL te (rc ops o);rw[Ml (te':=te') (fun t a=>by rw[h',ai a])]at h
 refine xg_ok b h c (fun t=>?_) d f;rw[h'];by_cases e:t∈rc ops o
 .rw[ai e];exact a t e
 .rw[af e];simp[ER]
def bit(m k:Nat):Bool:=jo m k
def kU(cls:List Nat)(i k:Nat):Bool:=bit (cls.getD i 0) k
def oe(ops:Array Oper)(i:Nat):Nat:=match ops[i]? with
 | some o=>fZ o.op
 | ab=>0
def BB(ops:Array Oper)(i:Nat):Option Nat:=(ops[i]?).bind (·.dst)
def comp(cls:List Nat)(i j:Nat):Bool:=kU cls i j||kU cls j i
structure qn(ops:Array Oper)(cls:List Nat)(alts:Nat->List Nat):Prop where
 aft:CK ops=true
 cl:∀i o k,ops[i]? = some o->kU cls i k=true->∃j∈Go.Proofs.YtdobfmlmenaajaaGreatDoor.aft o,j=k∨kU cls j k=true
 dst:∀i j d,BB ops i=some d->BB ops j=some d->i=j
 reads:∀i o t k,ops[i]? = some o->t∈rc ops o->k≠i->BB ops k=some t->comp cls i k=true
 four:∀i j,i≠j->oe ops i=4->2<=oe ops j->comp cls i j=true
 three:∀i j,oe ops i=3->oe ops j=2->comp cls i j=true
 guard:∀(i:Nat) (o:Oper),ops[i]? = some o->fZ o.op=2->o.guard=ab
 altW:∀i w,oe ops i=1->oe ops w=4->comp cls i w=false->w+1∈alts i
 altA:∀i,oe ops i=1->∃a∈alts i,a<=i/\(∀w,oe ops w=4->kU cls i w=true->w<a)/\∀k,k<a->2<=oe ops k->oe ops k≠3->kU cls i k=true
structure rG(call:eE)(ops:Array Oper)(T:Nat->TE)(N:Nat->Nat)(M:Nat->EL)(V:Nat->XV):Prop where
 step:∀i o,ops[i]? = some o->xg call ops o (T i) (N i) (M i)=some (V i,N (i+1),M (i+1))
 put:∀i o t,ops[i]? = some o->jW (T (i+1)) t=if o.dst=some t then V i else jW (T i) t
def rG.get{call:eE}(h:rG call ops T N M V){cls:List Nat}{alts:Nat->List Nat}(j:qn ops cls alts) :
  ∀i,i<=ops.size->∀t,(∀k,k<i->BB ops k=some t->jW (T i) t=V k)/\((∀k,k<i->BB ops k≠some t)->jW (T i) t=jW (T 0) t):=by
 intro i
 induction i with
 | zero=>intro _ t;exact⟨fun k d=>om,fun _=>rfl⟩
 | succ i ih =>
  intro p t;obtain⟨o,f⟩:∃o,ops[i]? = some o:=⟨ops[i],cw om⟩;have b:=h.put i o t f;have c:BB ops i=o.dst:=by unfold BB;rw[f];rfl
  obtain⟨l,m⟩:=ih om t;refine⟨fun k d a=>?_,fun g=>?_⟩
  .by_cases e:k=i
   .subst e;rw[b,ai (by rw[<-c];exact a)]
   .rw[b,af (fun n=>e (j.dst k i t a (by rw[c];exact n)))]
    exact l k om a
  .rw[b,af (by rw[<-c];exact g i om)]
   exact m fun k d=>g k om
def sh{call:eE}(a:fZ o.op≠3):xk call o te nx l=BU call o te nx l:=by
 unfold xk;rw[Tr a]
def Ja{call:eE}(d:uR call){ops:Array Oper}{o:Oper}{te:TE}{nx:Nat}{l:EL}{r:XV×Nat×EL}(f:fZ o.op=0)(h:xg call ops o te nx l=some r):r.2=(nx,l)/\∀nx' l',xg call ops o te nx' l'=some (r.1,nx',l'):=by
 unfold xg at h ⊢
 cases g:o.guard with
 | none =>
  rw[g]at h;dsimp only at h ⊢;rw[sh om]at h;obtain⟨a,c⟩:=ET d f h;exact⟨a,fun nx' l'=>by rw[sh om];exact c nx' l'⟩
 | some p =>
  obtain⟨j,want⟩:=p;rw[g]at h;dsimp only at h ⊢
  cases i:wo ops te j<;>rw[i]at h<;>try cases h
  rename_i b;dsimp only at h ⊢;by_cases e:b=want
  .rw[ai e,sh om]at h;obtain⟨a,c⟩:=ET d f h;exact⟨a,fun nx' l'=>by rw[ai e,sh om];exact c nx' l'⟩
  .rw[af e]at h
   cases h
   exact⟨rfl,fun nx' l'=>by rw[af e]⟩
def tA{call:eE}(f:fZ o.op=1)(h:xg call ops o te nx l=some r):r.2=(nx,l)/\∀nx' l',(∀i X,eL l i=some (some X)->eL l' i=some (some X))->xg call ops o te nx' l'=some (r.1,nx',l'):=by
 unfold xg at h ⊢
 cases g:o.guard with
 | none =>
  rw[g]at h;dsimp only at h ⊢;rw[sh om]at h;obtain⟨a,c⟩:=EU f h;exact⟨a,fun nx' l' d=>by rw[sh om];exact c nx' l' d⟩
 | some p =>
  obtain⟨j,want⟩:=p;rw[g]at h;dsimp only at h ⊢
  cases k:wo ops te j<;>rw[k]at h<;>try cases h
  rename_i b;dsimp only at h ⊢;by_cases e:b=want
  .rw[ai e,sh om]at h;obtain⟨a,c⟩:=EU f h;exact⟨a,fun nx' l' d=>by rw[ai e,sh om];exact c nx' l' d⟩
  .rw[af e]at h
   cases h
   exact⟨rfl,fun nx' l' _=>by rw[af e]⟩
def Sp{call:eE}(a:fZ o.op=3)(h:xg call ops o te nx l=some r):r.2=(nx,l):=by
 have key:∀{r},xk call o te nx l=some r->r.2=(nx,l):=fun {r} h=>by
  unfold xk at h;split at h
  .split at h
   .split at h
    .cases h;rfl
    .cases h
   .cases h
  .rename_i e;rw[a]at e;cases e
 unfold xg at h;split at h
 .exact key h
 .split at h
  .split at h
   .exact key h
   .cases h;rfl
  .cases h
def OX{call:eE}(b:o.guard=ab)(c:fZ o.op=2)(h:xg call ops o te nx l=some r):∃X,eL l nx=ab/\r=(r.1,nx+1,sC l nx (some X))/\∀l',eL l' nx=ab->xg call ops o te nx l'=some (r.1,nx+1,sC l' nx (some X)):=by
 unfold xg at h ⊢;rw[b]at h ⊢;dsimp only at h ⊢;rw[sh om]at h;obtain⟨X,d,e,f⟩:=Mf c h;exact⟨X,d,e,fun l' a=>by rw[sh om];exact f l' a⟩
end

noncomputable section
def MR.ext{l':EL}(h:MR φ l S)(e:∀j,eL l j=eL l' j):MR φ l' S :=
 ⟨fun i a=>h.dom i (by rw[e];exact a),fun i X a=>h.live i X (by rw[e];exact a),fun i j X Y b a c=>h.inj i j X Y b (by rw[e];exact a) (by rw[e];exact c)⟩
def Ex(ops:Array Oper)(L:Nat->Bool):Prop:=∀i o,ops[i]? = some o->L i=true->∀k∈aft o,L k=true
structure R7(ops:Array Oper)(T:Nat->TE)(N:Nat->Nat)(M:Nat->EL)(V:Nat->XV)(φ0:Ph)(L:Nat->Bool)(O:Tm)(S:St)(φ:Ph)(s:Nat)(m:EL):Prop where
 le:φ0.le φ
 s1:s<=ops.size
 s2:∀w,oe ops w=4->L w=true->w<s
 s3:s=0∨∃w,s=w+1/\oe ops w=4/\L w=true
 t1:∀t k,L k=true->BB ops k=some t->ER φ (V k) (O t)
 t2:∀t,(∀k,L k=true->BB ops k≠some t)->ER φ (jW (T 0) t) (O t)
 mr:MR φ m S
 m1:∀k,s<=k->oe ops k=2->L k=true->eL m (N k)=eL (M (k+1)) (N k)
 m2:∀j,(∀k,s<=k->oe ops k=2->L k=true->N k≠j)->eL m j=eL (M s) j
def t7(h:ops[i]? = some o):oe ops i=fZ o.op:=by unfold oe;rw[h]
def Nq(h:oe ops i≠0):∃o,ops[i]? = some o/\i<ops.size:=by
 unfold oe at h
 cases a:ops[i]? with
 | none=>rw[a]at h;exact absurd rfl h
 | some o=>exact⟨o,rfl,(fO.1 a).1⟩
def Fx(o:Op):fZ o<=4:=by
 cases o<;>try (simp[fZ];done)
 case call c=>have:=sV c;omega
def rG.still{call:eE}(c:uR call){ops:Array Oper}{T:Nat->TE}{N:Nat->Nat}{M:Nat->EL}{V:Nat->XV}(h:rG call ops T N M V){i:Nat}{o:Oper}(b:ops[i]? = some o)(d:oe ops i≠2)(f:oe ops i≠4):N (i+1)=N i/\M (i+1)=M i:=by
 have a:=h.step i o b;rw[t7 b]at d f;have g:=Fx o.op;have:((N (i+1),M (i+1)):Nat×EL)=(N i,M i):=by
  rcases (om:fZ o.op=0∨fZ o.op=1∨fZ o.op=3)with e|e|e
  .exact(Ja c e a).1
  .exact(tA e a).1
  .exact Sp e a
 exact⟨jL Prod.fst this,jL Prod.snd this⟩
def rG.make{call:eE}(d:qn ops cls alts){T:Nat->TE}{N:Nat->Nat}{M:Nat->EL}{V:Nat->XV}(h:rG call ops T N M V){i:Nat}{o:Oper}(a:ops[i]? = some o)(b:oe ops i=2) :
  eL (M i) (N i)=ab/\N (i+1)=N i+1/\∃X,M (i+1)=sC (M i) (N i) (some X)/\∀l',eL l' (N i)=ab->xg call ops o (T i) (N i) l'=some (V i,N i+1,sC l' (N i) (some X)):=by
 have c:=h.step i o a;rw[t7 a]at b;obtain⟨X,f,g,j⟩:=OX (d.guard i o a b) b c;have e:=jL Prod.snd g;exact⟨f,jL Prod.fst e,X,jL Prod.snd e,j⟩
def rG.seg{call:eE}(u:uR call){ops:Array Oper}{cls:List Nat}{alts:Nat->List Nat}(v:qn ops cls alts){T:Nat->TE}{N:Nat->Nat}{M:Nat->EL}{V:Nat->XV}(h:rG call ops T N M V){s:Nat}:∀i,s<=i->i<=ops.size->(∀w,s<=w->w<i->oe ops w≠4) ->
  N s<=N i/\(∀k,s<=k->k<i->oe ops k=2->N k<N i/\eL (M i) (N k)=eL (M (k+1)) (N k)/\eL (M s) (N k)=ab)/\∀j,(∀k,s<=k->k<i->oe ops k=2->N k≠j)->eL (M i) j=eL (M s) j:=by
 intro i
 induction i with
 | zero =>
  intro x _ _;obtain rfl:s=0:=om
  exact⟨ae _,fun k _ d=>om,fun j _=>rfl⟩
 | succ i ih =>
  intro x B p;by_cases e:s=i+1
  .subst e;exact⟨ae _,fun k a b=>om,fun j _=>rfl⟩
  obtain⟨y,g,l⟩:=ih om om (fun w a b=>p w a om);obtain⟨o,q⟩:∃o,ops[i]? = some o:=⟨ops[i],cw om⟩;by_cases d:oe ops i=2
  .obtain⟨m,r,X,t,_⟩:=h.make v q d;refine⟨om,fun k a b c=>?_,fun j f=>?_⟩
   .by_cases ek:k=i
    .subst ek;refine⟨om,rfl,?_⟩
     rw[<-l (N k) (fun k' a' b' c'=>by have:=(g k' a' b' c').1;omega)];exact m
    .obtain⟨C,z,A⟩:=g k a om c;refine⟨om,?_,A⟩
     rw[t,fQ,af om];exact z
   .rw[t,fQ,af (fun n=>f i om om d n.symm)];exact l j fun k a b c=>f k a om c
  .obtain⟨m,r⟩:=h.still u q d (p i om om);rw[m,r];refine⟨y,fun k a b c=>?_,fun j f=>l j fun k a b c=>f k a om c⟩;have ek:k≠i:=fun n=>by subst n;exact d c
   exact g k a om c
def N6(h:CK ops=true){i:Nat}{o:Oper}(a:ops[i]? = some o){k:Nat}(b:k∈aft o):k<i:=by
 have c:=aG.1 h (o,i) (ml (by simpa using a))
 have d:=aG.1 c k b;simpa using d
def xI(b:qn ops cls alts):∀(i:Nat),i<ops.size->∀k,kU cls i k=true->k<i:=by
 intro i
 induction i using jN with
 | ind i ih =>
  intro d k f;have c:ops[i]? = some ops[i]:=cw d;obtain⟨j,g,e⟩:=b.cl i _ k c f;have a:=N6 b.aft c g;rcases e with rfl|e
  .exact a
  .have:=ih j a om k e;omega
def QB(c:qn ops cls alts){L:Nat->Bool}(d:∀i,L i=true->i<ops.size)(h:Ex ops L):∀(x:Nat),L x=true->∀k,kU cls x k=true->L k=true:=by
 intro x
 induction x using jN with
 | ind x ih =>
  intro a k l;obtain⟨o,b⟩:∃o,ops[x]? = some o:=⟨ops[x]'(d x a),cw (d x a)⟩;obtain⟨j,f,e⟩:=c.cl x _ k b l;have g:=h x _ b a j f;rcases e with rfl|e
  .exact g
  .exact ih j (N6 c.aft b f) g k e
def sP(l:qn ops cls alts){te:TE}{V:Nat->XV}{L:Nat->Bool}{O:Tm}{φ ψ:Ph}(c:φ.le ψ){i:Nat}{o:Oper}(m:ops[i]? = some o){z:AV}(n:ER ψ (V i) z)
  (p:∀t k,L k=true->BB ops k=some t->ER φ (V k) (O t)) (q:∀t,(∀k,L k=true->BB ops k≠some t)->ER φ (jW te t) (O t)) :
  (∀t k,(if k=i then true else L k)=true->BB ops k=some t->ER ψ (V k) (O.put o.dst z t))/\∀t,(∀k,(if k=i then true else L k)=true->BB ops k≠some t)->ER ψ (jW te t) (O.put o.dst z t):=by
 have g:BB ops i=o.dst:=by unfold BB;rw[m];rfl
 have a:∀t,O.put o.dst z t=if o.dst=some t then z else O t:=fun t=>by
  cases r:o.dst with
  | none=>rw[MU];simp
  | some d =>
   by_cases e:t=d
   .subst e;rw[Pt];simp
   .rw[MV e,af (fun h=>e (kN h).symm)]
 refine⟨fun t k f b=>?_,fun t j=>?_⟩
 .rw[a];by_cases e:k=i
  .subst e;rw[ai (by rw[<-g];exact b)];exact n
  .rw[af (fun h=>e (l.dst k i t b (by rw[g];exact h)))]
   rw[af e]at f;exact(p t k f b).mono c
 .rw[a,af (by rw[<-g];exact j i sm)]
  exact(q t fun k f=>j k (by by_cases e:k=i<;>simp[e,f])).mono c
def MP{call:eE}(a:qn ops cls alts){T:Nat->TE}{N:Nat->Nat}{M:Nat->EL}{V:Nat->XV}(h:rG call ops T N M V){L:Nat->Bool}{O:Tm}{φ:Ph}{i:Nat}{o:Oper}(m:ops[i]? = some o)(p:i<ops.size)(s:∀i,L i=true->i<ops.size)
  (cin:∀k,kU cls i k=true->L k=true) (nin:∀k,L k=true->kU cls k i=true->False)
  (q:∀t k,L k=true->BB ops k=some t->ER φ (V k) (O t)) (r:∀t,(∀k,L k=true->BB ops k≠some t)->ER φ (jW (T 0) t) (O t)) (b:L i=false) :
  ∀t∈rc ops o,ER φ (jW (T i) t) (O t):=by
 intro t n;by_cases l:∃k,L k=true/\BB ops k=some t
 .obtain⟨k,c,d⟩:=l;have f:k≠i:=fun e=>by subst e;rw[c]at b;cases b
  have g:=a.reads i o t k m n f d;unfold comp at g;rcases im.1 g with e|e
  .rw[(h.get a i om t).1 k (xI a i p k e) d];exact q t k c d
  .exact(nin k c e).elim
 .rw[(h.get a i om t).2 fun k f j=>?_]
  .exact r t fun k c d=>l ⟨k,c,d⟩
  .have g:=a.reads i o t k m n om j;unfold comp at g;rcases im.1 g with e|e
   .exact l ⟨k,cin k e,j⟩
   .have:=xI a k om i e;omega
def Pz{call:eE}(hc:nd call)(R:uR call){ops:Array Oper}{cls:List Nat}{alts:Nat->List Nat}(l:qn ops cls alts){T:Nat->TE}{N:Nat->Nat}{M:Nat->EL}{V:Nat->XV}(h:rG call ops T N M V)
  (hl:∀(i:Nat) (o:Oper) a,ops[i]? = some o->fZ o.op=1->a∈alts i->∃nx,xg call ops o (T i) nx (M a)=some (V i,nx,M a))
  {φ0:Ph} (hG:GP φ0) {O:Tm} {S:St} (ht:TR φ0 (T 0) O) (hm:MR φ0 (M 0) S) {K:Tm->St->Prop} (hK:∀ψ O' S',φ0.le ψ->TR ψ (T ops.size) O'->MR ψ (M ops.size) S'->K O' S'):awI ops O S K:=by
 refine⟨fun L O S=>(∀i,L i=true->i<ops.size)/\Ex ops L/\∃φ s m,R7 ops T N M V φ0 L O S φ s m,l.aft,?_,?_,?_⟩
 .exact⟨fun i F=>(mO F).elim,fun i o _ F=>(mO F).elim,φ0,0,M 0,Ph.le_refl _,jM _,fun w _ Q=>(mO Q).elim,bF rfl,fun t k g=>(mO g).elim,fun t _=>ht t,hm,fun k _ _ g=>(mO g).elim,fun j _=>rfl⟩
 .intro i o D L O S hP F ha;obtain⟨U,Y,φ,s,m,P⟩:=hP;have A:i<ops.size:=(fO.1 D).1;have Z:=QB l U Y;have cin:∀k,kU cls i k=true->L k=true:=fun k g=>by
   obtain⟨j,B,e⟩:=l.cl i o k D g;rcases e with rfl|e
   .exact ha _ B
   .exact Z j (ha j B) k e
  have nin:∀k,L k=true->kU cls k i=true->False:=fun k d c=>by rw[Z k d i c]at F;cases F
  have hr:=MP l h D A U cin nin P.t1 P.t2 F;have hGφ:=hG.mono P.le;have hst:=h.step i o D;have kk:=t7 D;have G:∀k,(if k=i then true else L k)=true->k<ops.size:=fun k g=>by
   by_cases e:k=i
   .omega
   .rw[af e]at g;exact U k g
  have u:Ex ops (fun k=>if k=i then true else L k):=fun x ox hox hx k g=>by
   show(if k=i then true else L k)=true
   by_cases e:k=i
   .rw[ai e]
   .rw[af e];by_cases ex:x=i
    .subst ex;rw[D]at hox;cases hox;exact ha k g
    .have hx':(if x=i then true else L x)=true:=hx
     rw[af ex]at hx';exact Y x ox hox hx' k g
  have same:∀ψ z S',φ.le ψ->ER ψ (V i) z->MR ψ m S'->oe ops i≠2->oe ops i≠4->R7 ops T N M V φ0 (fun k=>if k=i then true else L k) (O.put o.dst z) S' ψ s m:=fun ψ z S' n H q n2 n4=>by
   obtain⟨t1,t2⟩:=sP l n D H P.t1 P.t2;refine⟨Ph.le_trans P.le n,P.s1,fun w Q I=>?_,P.s3.imp id fun⟨w,W,C,E⟩=>⟨w,W,C,by show(if w=i then true else L w)=true;rw[E];simp⟩,t1,t2,q,fun k d c f=>?_,fun j B=>P.m2 j fun k d c f=>B k d c (by show(if k=i then true else L k)=true;rw[f];simp)⟩
   .have p:(if w=i then true else L w)=true:=I
    have e:w≠i:=fun e=>by subst e;exact n4 Q
    rw[af e]at p;exact P.s2 w Q p
   .have r:(if k=i then true else L k)=true:=f
    have e:k≠i:=fun e=>by subst e;exact n2 c
    rw[af e]at r;exact P.m1 k d c r
  have hle4:=Fx o.op;have segL:∀k,s<=k->oe ops k=2->L k=true->∀w,s<=w->w<k+1->oe ops w≠4:=fun k d c f w v h5 h6=>by
   have hwk:w≠k:=fun e=>by subst e;omega
   rcases im.1 (l.four w k hwk h6 om)with e|e
   .obtain⟨_,_,Q⟩:=Nq (ops:=ops) (i:=w) om;have:=xI l w Q k e;omega
   .have:=P.s2 w h6 (Z k f w e);omega
  have sLe:2<=oe ops i->s<=i:=fun c=>by
   rcases P.s3 with e0|⟨w,W,C,E⟩
   .omega
   .have hwi:w≠i:=fun e=>by subst e;rw[E]at F;cases F
    rcases im.1 (l.four w i hwi C c)with e|e
    .exact(nin w E e).elim
    .have:=xI l i A w e;omega
  have noW:2<=oe ops i->∀w,s<=w->w<i->oe ops w≠4:=fun c w f v h5=>by
   rcases im.1 (l.four w i om h5 c)with e|e
   .have:=xI l w om i e;omega
   .have:=P.s2 w h5 (cin w e);omega
  have eqMi:2<=oe ops i->(∀k,oe ops k=2->comp cls i k=true)->∀j,eL m j=eL (M i) j:=fun c hcm j=>by
   have y:=sLe c;have sg:=h.seg (s:=s) R l i y om (noW c);have kIn:∀k,oe ops k=2->k<i->L k=true:=fun k g hlt=>by
    rcases im.1 (hcm k g)with e|e
    .exact cin k e
    .have:=xI l k om i e;omega
   by_cases g:∃k,s<=k/\k<i/\oe ops k=2/\N k=j
   .obtain⟨k,d,f,v,rfl⟩:=g;rw[P.m1 k d v (kIn k v f),(sg.2.1 k d f v).2.1]
   .rw[P.m2 j fun k d f v h5=>?_,sg.2.2 j fun k d f v h5=>g ⟨k,d,f,v,h5⟩];rcases im.1 (hcm k f)with e|e
    .exact g ⟨k,d,xI l i A k e,f,h5⟩
    .exact nin k v e
  rcases (om:fZ o.op=0∨fZ o.op=1∨fZ o.op=2∨fZ o.op=3∨fZ o.op=4)with e|e|e|e|e
  .obtain⟨_,C⟩:=Ja R e hst;exact yY hc (C (N i) m) hGφ hr P.mr fun ψ z S' n H q=>⟨G,u,ψ,s,m,same ψ z S' n H q om om⟩
  .have base:∀j X,eL (M s) j=some (some X)->eL m j=some (some X):=fun j X B=>by
    rw[P.m2 j fun k d c f E=>by
     subst E;have:=((h.seg R l (k+1) om (by have:=U k f;omega) (segL k d c f)).2.1 k d om c).2.2
     rw[this]at B;cases B]
    exact B
   have hsub:∃a∈alts i,∀j X,eL (M a) j=some (some X)->eL m j=some (some X):=by
    have caseA:(∀w,s=w+1->oe ops w=4->L w=true->kU cls i w=true)->∃a∈alts i,∀j X,eL (M a) j=some (some X)->eL m j=some (some X):=fun hA=>by
     obtain⟨a,ha1,ha2,ha3,ha4⟩:=l.altA i om;have hsa:s<=a:=by
      rcases P.s3 with e0|⟨w,W,C,E⟩
      .omega
      .have:=ha3 w C (hA w W C E);omega
     have sg:=h.seg R l a hsa om fun w d c f=>by
      have:=P.s2 w f (cin w (ha4 w c om om));omega
     refine⟨a,ha1,fun j X B=>?_⟩;by_cases g:∃k,s<=k/\k<a/\oe ops k=2/\N k=j
     .obtain⟨k,d,c,f,rfl⟩:=g;rw[P.m1 k d f (cin k (ha4 k c om om)),<-(sg.2.1 k d c f).2.1];exact B
     .refine base j X ?_;rw[<-sg.2.2 j fun k d c f v=>g ⟨k,d,c,f,v⟩];exact B
    rcases P.s3 with e0|⟨w,W,C,E⟩
    .exact caseA fun w d=>om
    .cases hbw:kU cls i w with
     | true =>
      exact caseA fun w' d _ _=>by
       obtain rfl:w'=w:=om
       exact hbw
     | false =>
      have hcw:comp cls i w=false:=by
       unfold comp;rw[hbw]
       cases hwi:kU cls w i with
       | true=>exact(nin w E hwi).elim
       | false=>rfl
      exact⟨w+1,l.altW i w om C hcw,W▸base⟩
   obtain⟨a,ha1,ha2⟩:=hsub;obtain⟨nx,hx⟩:=hl i o a D e ha1;have hx2:=(tA e hx).2 (N i) m ha2;exact yY hc hx2 hGφ hr P.mr fun ψ z S' n H q=>⟨G,u,ψ,s,m,same ψ z S' n H q om om⟩
  .obtain⟨r1,r2,X,r3,r4⟩:=h.make l D om;have y:=sLe om;have hnw:=noW om;have sg:=h.seg (s:=s) R l (i+1) om om fun w d c f=>by
    by_cases ew:w=i
    .subst ew;omega
    .exact hnw w d om f
   have hne:∀k,s<=k->oe ops k=2->L k=true->N k≠N i:=fun k d c f=>by
    have hki:k≠i:=fun e=>by subst e;rw[f]at F;cases F
    by_cases hlt:k<i
    .have:=(h.seg R l i y om hnw).2.1 k d hlt c;omega
    .have:=(h.seg R l k om (by have:=U k f;omega) (fun w a b=>segL k d c f w a om)).2.1 i y om om
     omega
   have hnone:eL m (N i)=ab:=by
    rw[P.m2 (N i) hne];exact(sg.2.1 i y om om).2.2
   refine yY hc (r4 m hnone) hGφ hr P.mr fun ψ z S' n H q=>⟨G,u,ψ,s,sC m (N i) (some X),?_⟩;obtain⟨t1,t2⟩:=sP l n D H P.t1 P.t2;refine⟨Ph.le_trans P.le n,P.s1,fun w Q I=>?_,P.s3.imp id fun⟨w,W,C,E⟩=>⟨w,W,C,by show(if w=i then true else L w)=true;rw[E];simp⟩,t1,t2,q,fun k d c f=>?_,fun j B=>?_⟩
   .have p:(if w=i then true else L w)=true:=I
    have e:w≠i:=fun e=>by subst e;omega
    rw[af e]at p;exact P.s2 w Q p
   .have r:(if k=i then true else L k)=true:=f
    by_cases ek:k=i
    .subst ek;rw[r3,fQ,fQ,ai rfl,ai rfl]
    .rw[af ek]at r;rw[fQ,af (hne k d c r)];exact P.m1 k d c r
   .rw[fQ,af (fun C=>B i y om sm C.symm)]
    refine P.m2 j fun k d c f=>B k d c (by show(if k=i then true else L k)=true;rw[f];simp)
  .have eqM:=eqMi om fun k g=>l.three i k om g;refine yY hc hst hGφ hr (P.mr.ext eqM) fun ψ z S' n H q=>⟨G,u,ψ,s,m,same ψ z S' n H (MR.ext ?_ fun j=>(eqM j).symm) om om⟩;have:=(h.still R D om om).2;rw[this]at q;exact q
  .have hki:oe ops i=4:=om
   have cmpC:∀k,oe ops k=2->comp cls i k=true:=fun k g=>l.four i k (fun e=>by subst e;omega) hki om
   have eqM:=eqMi om cmpC;have y:=sLe om;refine yY hc hst hGφ hr (P.mr.ext eqM) fun ψ z S' n H q=>⟨G,u,ψ,i+1,M (i+1),?_⟩;obtain⟨t1,t2⟩:=sP l n D H P.t1 P.t2;refine⟨Ph.le_trans P.le n,om,fun w Q I=>?_,bH ⟨i,rfl,hki,sm⟩,t1,t2,q,fun k d c f=>?_,fun j _=>rfl⟩
   .have p:(if w=i then true else L w)=true:=I
    by_cases ew:w=i
    .omega
    .rw[af ew]at p;have:=P.s2 w Q p;omega
   .have r:(if k=i then true else L k)=true:=f
    rw[af om]at r;rcases im.1 (cmpC k c)with e|e
    .have:=xI l i A k e;omega
    .exact(nin k r e).elim
 .intro L O S hP J;obtain⟨U,Y,φ,s,m,P⟩:=hP;have sg:=h.seg (s:=s) R l ops.size P.s1 (ae _) fun w d c f=>by
   have:=P.s2 w f (J w c);omega
  refine hK φ O S P.le (fun t=>?_) (P.mr.ext fun j=>?_)
  .by_cases g:∃k,k<ops.size/\BB ops k=some t
   .obtain⟨k,d,c⟩:=g;rw[(h.get l _ (ae _) t).1 k d c];exact P.t1 t k (J k d) c
   .rw[(h.get l _ (ae _) t).2 fun k d c=>g ⟨k,d,c⟩];exact P.t2 t fun k d c=>g ⟨k,U k d,c⟩
  .by_cases g:∃k,s<=k/\k<ops.size/\oe ops k=2/\N k=j
   .obtain⟨k,d,c,f,rfl⟩:=g;rw[P.m1 k d f (J k c),(sg.2.1 k d c f).2.1]
   .rw[P.m2 j fun k d c f v=>g ⟨k,d,U k f,c,v⟩,sg.2.2 j fun k d c f v=>g ⟨k,d,c,f,v⟩]
end

noncomputable section
def Cp(cls:List Nat):List Nat->Nat
 | []=>0
 | j::r=>2^j ||| (cls.getD j 0 ||| Cp cls r)
theorem Co{cls:List Nat}{k:Nat}:∀{l:List Nat},jo (Cp cls l) k=true->∃j∈l,j=k∨kU cls j k=true
 | [],h=>by simp[Cp]at h
 | j::r,h=>by
  simp only[Cp,yP,gM]at h;rcases h with h|h|h
  .rw[UF]at h;exact⟨j,eH ..,bF (by simpa using h)⟩
  .exact⟨j,eH ..,bH h⟩
  .obtain⟨i,a,e⟩:=Co h;exact⟨i,dT _ a,e⟩
def CD:List Oper->List Nat->List Nat
 | [],c=>c
 | o::r,c=>CD r (c++[Cp c (aft o)])
def IC(p:Nat->Oper->Bool):Nat->List Oper->Bool
 | _,[]=>true
 | i,o::r=>p i o&&IC p (i+1) r
theorem uB{p:Nat->Oper->Bool}:∀{l:List Oper} {k:Nat},IC p k l=true->∀(i:Nat) (o:Oper),l[i]? = some o->p (k+i) o=true
 | [],_,_,i,o,h=>by simp at h
 | x::r,k,h,i,o,a=>by
  simp only[IC,au]at h
  cases i with
  | zero=>simp at a;subst a;exact h.1
  | succ i =>
   rw[ci]at a;have:=uB h.2 i o a
   rwa [(om:k+1+i=k+(i+1))]at this
def An:List Oper->Nat->Bool
 | [],_=>true
 | o::r,m=>match o.dst with
  | ab=>An r m
  | some d=>!jo m d&&An r (m ||| 2^d)
theorem wv:∀{l:List Oper} {m:Nat},An l m=true->(∀(i:Nat) (d:Nat),(l[i]?).bind (·.dst)=some d->jo m d=false)/\∀(i j d:Nat),(l[i]?).bind (·.dst)=some d->(l[j]?).bind (·.dst)=some d->i=j
 | [],_,_=>⟨fun i d h=>by simp at h,fun i j d h=>by simp at h⟩
 | o::r,m,h=>by
  simp only[An]at h
  cases b:o.dst with
  | none =>
   rw[b]at h;obtain⟨g,k⟩:=wv h;refine⟨fun i d a=>?_,fun i j d a c=>?_⟩
   .cases i with
    | zero=>simp[b]at a
    | succ i=>exact g i d (by simpa using a)
   .cases i with
    | zero=>simp[b]at a
    | succ i =>
     cases j with
     | zero=>simp[b]at c
     | succ j=>rw[k i j d (by simpa using a) (by simpa using c)]
  | some n =>
   rw[b]at h;simp only[au,ll]at h;obtain⟨g,k⟩:=wv h.2;have f:∀(i d:Nat),(r[i]?).bind (·.dst)=some d->jo m d=false/\d≠n:=fun i d a=>by
    have:=g i d a;rw[yP,Bool.or_eq_false_iff,UF]at this;exact⟨this.1,fun e=>by simp[e]at this⟩
   refine⟨fun i d a=>?_,fun i j d a c=>?_⟩
   .cases i with
    | zero=>simp[b]at a;subst a;exact h.1
    | succ i=>exact(f i d (by simpa using a)).1
   .cases i with
    | zero =>
     simp[b]at a
     cases j with
     | zero=>rfl
     | succ j=>exact((f j d (by simpa using c)).2 a.symm).elim
    | succ i =>
     cases j with
     | zero=>simp[b]at c;exact((f i d (by simpa using a)).2 c.symm).elim
     | succ j=>rw[k i j d (by simpa using a) (by simpa using c)]
def FR:List Oper->Nat
 | []=>0
 | o::r=>match o.dst with
  | ab=>FR r
  | some d=>2^d ||| FR r
theorem FQ:∀{l:List Oper} {i d:Nat},(l[i]?).bind (·.dst)=some d->jo (FR l) d=true
 | [],i,d,h=>by simp at h
 | o::r,i,d,h=>by
  simp only[FR]
  cases i with
  | zero =>
   simp at h;rw[h];simp[yP]
  | succ i =>
   have:=FQ (l:=r) (i:=i) (d:=d) (by simpa using h)
   cases a:o.dst with
   | none=>exact this
   | some b=>simp[yP,this]
def Ea(ops:List Oper)(cls:List Nat)(ks:List Nat)(i:Nat):List Nat :=
 match ap (ks.getD i 0) 1 with
 | true =>
  let n:=ops.length
  let a1:=((gF n).filter fun w=>ap (ks.getD w 0) 4&&kU cls i w).foldl (fun a w=>Nat.max a (w+1)) 0
  let a0:=(((gF i).filter fun k=>jB a1 k&&(ap (ks.getD k 0) 2||ap (ks.getD k 0) 4)&&!kU cls i k).head?).getD i
  a0::((gF n).filter fun w=>ap (ks.getD w 0) 4&&!comp cls i w).map (·+1)
 | false=>[]
def Dt(l:List Oper)(cls ks:List Nat)(alts:Nat->List Nat):Bool :=
 let D:=FR l
 let n:=l.length
 CK l.toArray&&An l 0 &&
 IC (fun i o=>ap (cls.getD i 0) (Cp cls (aft o))&&ap (ks.getD i 0) (fZ o.op)) 0 l &&
 IC (fun i o=>(rc l.toArray o).all fun t=>!jo D t||IC (fun k p=>match p.dst with
  | some d=>!ap d t||ap k i||comp cls i k
  | ab=>true) 0 l) 0 l &&
 IC (fun i o=>match ap (ks.getD i 0) 2 with
  | true=>o.guard.isNone
  | false=>match ap (ks.getD i 0) 4 with
   | true=>(gF n).all fun j=>ap i j||aN (ks.getD j 0) 2||comp cls i j
   | false=>match ap (ks.getD i 0) 3 with
    | true=>(gF n).all fun j=>!ap (ks.getD j 0) 2||comp cls i j
    | false=>match ap (ks.getD i 0) 1 with
     | true=>((gF n).all fun w=>!ap (ks.getD w 0) 4||comp cls i w||(alts i).contains (w+1)) &&
      (alts i).any fun a=>jB a i&&((gF n).all fun w=>!ap (ks.getD w 0) 4||!kU cls i w||aN w a) &&
       (gF a).all fun k=>aN (ks.getD k 0) 2||ap (ks.getD k 0) 3||kU cls i k
     | false=>true) 0 l
def qJ{a b:Bool}(h:(!a||b)=true)(c:a=true):b=true:=by subst c;simpa using h
def Ht{l:List Oper}(h:Dt l cls ks alts=true):qn l.toArray cls alts:=by
 simp only[Dt,au]at h;obtain⟨⟨⟨⟨D,E⟩,F⟩,G⟩,H⟩:=h;have C:=uB F;have I:=uB G;have s:=uB H;have get:∀(i:Nat) (o:Oper),l.toArray[i]? = some o->l[i]? = some o:=fun i o b=>by simpa using b
 have dAtE:∀i,BB l.toArray i=(l[i]?).bind (·.dst):=fun i=>by unfold BB;simp
 have lt:∀(i:Nat) (o:Oper),l[i]? = some o->i<l.length:=fun i o b=>(er.1 b).1;have ksE:∀(i:Nat) (o:Oper),l[i]? = some o->ks.getD i 0=fZ o.op:=fun i o b=>by
  have:=C i o b;simp only[au,aD]at this;exact ak this.2
 have kE:∀(i:Nat) (o:Oper),l[i]? = some o->oe l.toArray i=ks.getD i 0:=fun i o b=>by rw[ksE i o b];exact t7 (by simpa using b)
 have kS:∀i,oe l.toArray i≠0->∃o,l[i]? = some o/\i<l.length/\oe l.toArray i=ks.getD i 0:=fun i m=>by
  obtain⟨o,b,J⟩:=Nq m;exact⟨o,get i o b,by simpa using J,kE i o (get i o b)⟩
 refine⟨D,fun i o k b f=>?_,fun i j d m v=>?_,fun i o t k b K y c=>?_,fun i j z m v=>?_,fun i j m v=>?_,fun i o b f=>?_,fun i w m L M=>?_,fun i m=>?_⟩
 .have:=C i o (get i o b);simp only[au,aD]at this;have e:=ak this.1;unfold kU bit at f;rw[e]at f;exact Co f
 .rw[dAtE]at m v;exact(wv E).2 i j d m v
 .have:=I i o (get i o b);simp only[aD,aG]at this;have:=this t K;rw[dAtE]at c;have:=qJ this (FQ c)
  cases n:l[k]? with
  | none=>rw[n]at c;simp at c
  | some p =>
   rw[n]at c;simp only[dE]at c;have:=uB this k p n;simp only[aD]at this;rw[c]at this;simp only[gM,ll]at this;rcases this with (e|e)|e
   .simp at e
   .exact(y (ak e)).elim
   .exact e
 .obtain⟨o,b,q,f⟩:=kS i om;obtain⟨p,x,r,A⟩:=kS j om;have:=s i o b;simp only[aD]at this;rw[(om:ks.getD i 0=4)]at this
  simp only[aG]at this;have:=this j (jq.2 r);simp only[gM]at this;rcases this with (e|e)|e
  .exact(z (ak e)).elim
  .have:ks.getD j 0<2:=by simpa [oI]using e
   omega
  .exact e
 .obtain⟨o,b,q,f⟩:=kS i om;obtain⟨p,x,r,A⟩:=kS j om;have:=s i o b;simp only[aD]at this;rw[(om:ks.getD i 0=3)]at this
  simp only[aG]at this;have:=this j (jq.2 r);exact qJ this (by rw[(om:ks.getD j 0=2)];rfl)
 .have:=s i o (get i o b);simp only[aD]at this;rw[ksE i o (get i o b),f]at this;simpa using this
 .obtain⟨o,b,q,f⟩:=kS i om;obtain⟨p,x,g,u⟩:=kS w om;have:=s i o b;simp only[aD]at this;rw[(om:ks.getD i 0=1)]at this
  simp only[au]at this;have:=aG.1 this.1 w (jq.2 g);rw[(om:ks.getD w 0=4),M]at this
  simpa using this
 .obtain⟨o,b,q,f⟩:=kS i om;have:=s i o b;simp only[aD]at this;rw[(om:ks.getD i 0=1)]at this
  simp only[au]at this;obtain⟨a,N,e⟩:=U7.1 this.2;simp only[au,aG]at e;obtain⟨⟨O,P⟩,Q⟩:=e;refine⟨a,N,cu O,fun w L R=>?_,fun k B S T=>?_⟩
  .obtain⟨p,x,g,u⟩:=kS w om;have:=P w (jq.2 g);rw[(om:ks.getD w 0=4),R]at this
   simpa [oI]using this
  .obtain⟨p,x,g,u⟩:=kS k om;have:=Q k (jq.2 B);simp only[gM]at this;rcases this with (e|e)|e
   .have:ks.getD k 0<2:=by simpa [oI]using e
    omega
   .have:=ak e;omega
   .exact e
end

noncomputable section
def tput(te:TE)(d:Option Nat)(v:XV):TE:=match d with
 | some d=>zt te d v
 | ab=>te
def MB(te:TE)(d:Option Nat)(v:XV)(t:Nat):jW (tput te d v) t=if d=some t then v else jW te t:=by
 cases d with
 | none=>simp[tput]
 | some d =>
  simp only[tput,mD];by_cases e:t=d
  .subst e;simp
  .rw[af e,af (fun a=>e (kN a).symm)]
def TR.tput(h:TR φ te O){d:Option Nat}{v:XV}{z:AV}(a:ER φ v z):TR φ (tput te d v) (O.put d z):=by
 cases d with
 | none=>rw[MU];exact h
 | some d=>exact h.put a
def Sr(call:eE)(ops:Array Oper)(o:Oper)(te:TE)(nx:Nat)(l:EL):XR:=match o.guard with
 | ab=>BU call o te nx l
 | some (j,want)=>match wo ops te j with
  | .bool b=>if b=want then BU call o te nx l else some (.any,nx,l)
  | _=>ab
def Sq{call:eE}(n:nd call){ops:Array Oper}{o:Oper}{te:TE}{nx:Nat}{l:EL}{r:XV×Nat×EL}(h:Sr call ops o te nx l=some r){φ:Ph}(q:GP φ){O:Tm}{S:St}(a:TR φ te O)(c:MR φ l S){K:Tm->St->Prop}
  (f:∀ψ z S',φ.le ψ->ER ψ r.1 z->MR ψ r.2.2 S'->K (O.put o.dst z) S'):Ef ops o O S K:=by
 unfold Sr at h;unfold Ef
 cases s:o.guard with
 | none =>
  rw[s]at h;exact C1 n h q a c fun ψ z S' g i k=>f ψ z S' g i k
 | some p =>
  obtain⟨j,want⟩:=p;rw[s]at h;dsimp only at h ⊢;have m:ER φ (wo ops te j) (EE ops O j):=by
   unfold wo EE
   cases (ops[j]?).bind (·.dst)with
   | none=>simp[ER]
   | some d=>exact a d
  cases t:wo ops te j<;>rw[t]at h<;>try cases h
  rename_i b;rw[t]at m;simp only[ER]at m;rw[m];dsimp only at h ⊢;refine⟨fun e=>?_,fun e=>?_⟩
  .rw[ai e]at h;exact C1 n h q a c fun ψ z S' g i k=>f ψ z S' g i k
  .rw[af (by rw[e];cases want<;>simp)]at h
   cases h
   exact f φ .any S (Ph.le_refl _) (by simp[ER]) c
def qU(call:eE)(ops:Array Oper)(L:List Oper):TE->Nat->EL->Option (TE×Nat×EL):=List.rec (motive:=fun _=>TE->Nat->EL->Option (TE×Nat×EL)) (fun te nx l=>some (te,nx,l))
 (fun o _ ih te nx l=>Option.rec ab (fun p=>Prod.rec (fun v q=>Prod.rec (fun nx' l'=>ih (tput te o.dst v) nx' l') q) p) (Sr call ops o te nx l)) L
def GW(call:eE)(ops:Array Oper)(te:TE)(nx:Nat)(l:EL):qU call ops [] te nx l=some (te,nx,l):=rfl
def E0(call:eE)(ops:Array Oper)(o:Oper)(r:List Oper)(te:TE)(nx:Nat)(l:EL):qU call ops (o::r) te nx l=match Sr call ops o te nx l with
  | some (v,nx',l')=>qU call ops r (tput te o.dst v) nx' l'
  | ab=>ab:=by
 show Option.rec (motive:=fun _=>Option (TE×Nat×EL)) ab (fun p=>Prod.rec (motive:=fun _=>Option (TE×Nat×EL)) (fun v q=>Prod.rec (motive:=fun _=>Option (TE×Nat×EL)) (fun nx' l'=>qU call ops r (tput te o.dst v) nx' l') q) p) (Sr call ops o te nx l)=_
 cases Sr call ops o te nx l<;>rfl
theorem BW{call:eE}(g:nd call){ops:Array Oper}:∀{L:List Oper} {te:TE} {nx:Nat} {l:EL} {r:TE×Nat×EL},qU call ops L te nx l=some r->∀{φ:Ph},GP φ->∀{O:Tm} {S:St},TR φ te O->MR φ l S->∀{K:Tm->St->Prop},
  (∀ψ O' S',φ.le ψ->TR ψ r.1 O'->MR ψ r.2.2 S'->K O' S')->Gc ops L O S K
 | [],te,nx,l,r,h,φ,b,O,S,a,c,K,d=>by
  rw[GW]at h;cases h;exact d φ O S (Ph.le_refl _) a c
 | o::L,te,nx,l,r,h,φ,b,O,S,a,c,K,d=>by
  rw[E0]at h
  cases e:Sr call ops o te nx l with
  | none=>rw[e]at h;cases h
  | some p =>
   obtain⟨v,nx',l'⟩:=p;rw[e]at h;have:=Sq g e b a c (K:=fun O S=>Gc ops L O S K) fun ψ z S' f i j=>BW g h (b.mono f) ((a.mono f).tput i) j fun χ O' S'' k m n=>d χ O' S'' (Ph.le_trans f k) m n;unfold Gc;unfold Ef at this;exact this
def BX(call:eE)(ops:Array Oper)(L:List Oper):TE->Nat->EL->Option (TE×Nat×EL):=List.rec (motive:=fun _=>TE->Nat->EL->Option (TE×Nat×EL)) (fun te nx l=>some (te,nx,l))
 (fun o _ ih te nx l=>Option.rec ab (fun p=>Prod.rec (fun v q=>Prod.rec (fun nx' l'=>ih (tput te o.dst v) nx' l') q) p) (xg call ops o te nx l)) L
def Ko(call:eE)(ops:Array Oper)(te:TE)(nx:Nat)(l:EL):BX call ops [] te nx l=some (te,nx,l):=rfl
def GV(call:eE)(ops:Array Oper)(o:Oper)(r:List Oper)(te:TE)(nx:Nat)(l:EL):BX call ops (o::r) te nx l=match xg call ops o te nx l with
  | some (v,nx',l')=>BX call ops r (tput te o.dst v) nx' l'
  | ab=>ab:=by
 show Option.rec (motive:=fun _=>Option (TE×Nat×EL)) ab (fun p=>Prod.rec (motive:=fun _=>Option (TE×Nat×EL)) (fun v q=>Prod.rec (motive:=fun _=>Option (TE×Nat×EL)) (fun nx' l'=>BX call ops r (tput te o.dst v) nx' l') q) p) (xg call ops o te nx l)=_
 cases xg call ops o te nx l<;>rfl
structure Ux where
 te:TE
 nx:Nat
 l:EL
 v:XV
variable{R:List Ux}
def Md(call:eE)(ops:Array Oper):List Oper->TE->Nat->EL->Option (List Ux)
 | [],te,nx,l=>some [⟨te,nx,l,.any⟩]
 | o::r,te,nx,l=>match xg call ops o te nx l with
  | some (v,nx',l')=>(match Md call ops r (tput te o.dst v) nx' l' with
   | some L=>some (⟨te,nx,l,v⟩::L)
   | ab=>ab)
  | ab=>ab
def jE:Ux:=⟨.e,0,.e,.any⟩
theorem yX{call:eE}{ops:Array Oper}:∀{L:List Oper} {te:TE} {nx:Nat} {l:EL} {R:List Ux},Md call ops L te nx l=some R->R.length=L.length+1/\(R.getD 0 jE).te=te/\(R.getD 0 jE).nx=nx/\(R.getD 0 jE).l=l /\
  ∀(i:Nat) (o:Oper),L[i]? = some o->xg call ops o (R.getD i jE).te (R.getD i jE).nx (R.getD i jE).l=some ((R.getD i jE).v,(R.getD (i+1) jE).nx,(R.getD (i+1) jE).l)/\(R.getD (i+1) jE).te=tput (R.getD i jE).te o.dst (R.getD i jE).v
 | [],te,nx,l,R,h=>by
  simp only[Md]at h;cases h;exact⟨rfl,rfl,rfl,rfl,fun i o a=>by simp at a⟩
 | o::L,te,nx,l,R,h=>by
  simp only[Md]at h
  cases b:xg call ops o te nx l with
  | none=>rw[b]at h;cases h
  | some p =>
   obtain⟨v,nx',l'⟩:=p;rw[b]at h;dsimp only at h
   cases c:Md call ops L (tput te o.dst v) nx' l' with
   | none=>rw[c]at h;cases h
   | some R' =>
    rw[c]at h
    cases h
    obtain⟨d,e,f,g,j⟩:=yX c;refine⟨by simp[d],rfl,rfl,rfl,fun i o' a=>?_⟩
    cases i with
    | zero =>
     simp at a;subst a;simp only[bO,aD,bG,e,f,g];exact⟨b,trivial⟩
    | succ i =>
     simp only[bG];exact j i o' (by simpa using a)
theorem BV{call:eE}{ops:Array Oper}:∀{L:List Oper} {te:TE} {nx:Nat} {l:EL} {r:TE×Nat×EL},BX call ops L te nx l=some r->∃R,Md call ops L te nx l=some R/\(R.getD L.length jE).te=r.1/\(R.getD L.length jE).nx=r.2.1/\(R.getD L.length jE).l=r.2.2
 | [],te,nx,l,r,h=>by
  rw[Ko]at h;cases h;exact⟨_,rfl,rfl,rfl,rfl⟩
 | o::L,te,nx,l,r,h=>by
  rw[GV]at h
  cases a:xg call ops o te nx l with
  | none=>rw[a]at h;cases h
  | some p =>
   obtain⟨v,nx',l'⟩:=p;rw[a]at h;obtain⟨R,b,c⟩:=BV h;refine⟨⟨te,nx,l,v⟩::R,by simp only[Md,a,b],?_⟩
   simpa using c
def Kh{call:eE}(h:Md call ops ops.toList te nx l=some R):rG call ops (fun i=>(R.getD i jE).te) (fun i=>(R.getD i jE).nx) (fun i=>(R.getD i jE).l) (fun i=>(R.getD i jE).v):=by
 obtain⟨_,_,_,_,k⟩:=yX h;refine⟨fun i o a=>(k i o (by simpa using a)).1,fun i o t a=>?_⟩
 show jW (R.getD (i+1) jE).te t=_;rw[(k i o (by simpa using a)).2,MB]
def EY(call:eE)(ops:Array Oper)(R:List Ux)(alts:Nat->List Nat):Nat->List Oper->Bool
 | _,[]=>true
 | i,o::r=>(match ap (fZ o.op) 1 with
  | true=>(alts i).all fun a=>ap a i||(match xg call ops o (R.getD i jE).te 0 (R.getD a jE).l with
   | some (v,_,_)=>lV v (R.getD i jE).v
   | ab=>false)
  | false=>true)&&EY call ops R alts (i+1) r
theorem EX{call:eE}{ops:Array Oper}{R:List Ux}{alts:Nat->List Nat}:∀{L:List Oper} {k:Nat},EY call ops R alts k L=true->∀(i:Nat) (o:Oper) (a:Nat),L[i]? = some o->fZ o.op=1->a∈alts (k+i)->a=k+i∨∃r,xg call ops o (R.getD (k+i) jE).te 0 (R.getD a jE).l=some r/\r.1=(R.getD (k+i) jE).v
 | [],_,_,i,o,a,b,_,_=>by simp at b
 | x::L,k,h,i,o,a,b,d,g=>by
  simp only[EY,au]at h
  cases i with
  | zero =>
   simp at b;subst b;have c:=h.1;rw[d]at c;simp only[aG]at c;have:=c a g;simp only[gM]at this;rcases this with e|e
   .exact bF (ak e)
   .right;simp only[cF]at e ⊢
    cases f:xg call ops x (R.getD k jE).te 0 (R.getD a jE).l with
    | none=>rw[f]at e;cases e
    | some r =>
     rw[f]at e;exact⟨r,rfl,AD _ _ e⟩
  | succ i =>
   have:=EX h.2 i o a (by simpa using b) d (by rwa [(om:k+1+i=k+(i+1))])
   rwa [(om:k+1+i=k+(i+1))]at this
structure Reg where
 cls:List Nat
 alts:Nat->List Nat
 easy:Bool
def tM(l:List Oper):Reg :=
 let c:=CD l []
 let ks:=l.map fun o=>fZ o.op
 let al:=(gF l.length).map (Ea l c ks)
 ⟨c,fun i=>al.getD i [],al.zipIdx.all fun p=>p.1.all fun a=>ap a p.2⟩
def MN(l:List Oper):Bool:=Dt l (CD l []) (l.map fun o=>fZ o.op) (tM l).alts
def ES(call:eE)(hard:Bool)(ops:Array Oper)(te:TE)(nx:Nat)(l:EL):Option (TE×Nat×EL):=match hard with
 | false=>BX call ops ops.toList te nx l
 | true=>match Md call ops ops.toList te nx l with
  | some R=>(match EY call ops R (tM ops.toList).alts 0 ops.toList with
   | true=>some ((R.getD ops.toList.length jE).te,(R.getD ops.toList.length jE).nx,(R.getD ops.toList.length jE).l)
   | false=>ab)
  | ab=>ab
def Qt{l:List Oper}(h:(tM l).easy=true):∀i a,a∈(tM l).alts i->a=i:=by
 intro i a e;have d:(((gF l.length).map (Ea l (CD l []) (l.map fun o=>fZ o.op))).zipIdx.all fun p=>p.1.all fun a=>ap a p.2)=true:=h;have b:a∈((gF l.length).map (Ea l (CD l []) (l.map fun o=>fZ o.op))).getD i []:=e;generalize (gF l.length).map (Ea l (CD l []) (l.map fun o=>fZ o.op))=al at d b;rw[ig]at b
 cases c:al[i]? with
 | none=>rw[c]at b;simp at b
 | some x =>
  rw[c]at b;have:=aG.1 d (x,i) (List.mk_mem_zipIdx_iff_getElem?.2 c);have:=aG.1 this a b;exact ak this
def Me{call:eE}(w:nd call)(x:uR call){b:Bool}{ops:Array Oper}(d:MN ops.toList=true)(y:(b||(tM ops.toList).easy)=true){te:TE}{nx:Nat}{l:EL}{r:TE×Nat×EL}(h:ES call b ops te nx l=some r){φ:Ph}(z:GP φ){O:Tm}{S:St}(A:TR φ te O)(B:MR φ l S){K:Tm->St->Prop}
  (C:∀ψ O' S',φ.le ψ->TR ψ r.1 O'->MR ψ r.2.2 S'->K O' S'):awI ops O S K:=by
 have D:=Ht d;have main:∀R,Md call ops ops.toList te nx l=some R->(R.getD ops.toList.length jE).te=r.1->(R.getD ops.toList.length jE).l=r.2.2->(∀(i:Nat) (o:Oper) a,ops[i]? = some o->fZ o.op=1->a∈(tM ops.toList).alts i->∃nx,xg call ops o (R.getD i jE).te nx (R.getD a jE).l=some ((R.getD i jE).v,nx,(R.getD a jE).l))->awI ops O S K:=by
  intro R s E F m;obtain⟨L,G,M,H,N⟩:=yX s;refine Pz w x D (Kh s) m z (by show TR φ (R.getD 0 jE).te O;rw[G];exact A) (by show MR φ (R.getD 0 jE).l S;rw[H];exact B) fun ψ O' S' c f t=>C ψ O' S' c ?_ ?_
  .rw[<-E];exact f
  .rw[<-F];exact t
 unfold ES at h
 cases b with
 | false =>
  have I:(tM ops.toList).easy=true:=y;obtain⟨R,c,f,t,J⟩:=BV h;refine main R c f J fun i o a n g u=>?_;obtain rfl:=Qt I i a u;have:=((yX c).2.2.2.2 a o (by simpa using n)).1
  have e:=(tA g this).1;simp only[ib]at e;rw[e.1,e.2]at this;exact⟨_,this⟩
 | true =>
  dsimp only at h
  cases k:Md call ops ops.toList te nx l with
  | none=>rw[k]at h;cases h
  | some R =>
   rw[k]at h;dsimp only at h
   cases q:EY call ops R (tM ops.toList).alts 0 ops.toList with
   | false=>rw[q]at h;cases h
   | true =>
    rw[q]at h
    cases h
    refine main R k rfl rfl fun i o a n g u=>?_;have j:ops.toList[i]? = some o:=by simpa using n
    have:=EX q i o a j g (by rwa [aD])
    rw[aD]at this;rcases this with rfl|⟨p,c,f⟩
    .have:=((yX k).2.2.2.2 a o j).1;have e:=(tA g this).1;simp only[ib]at e;rw[e.1,e.2]at this;exact⟨_,this⟩
    .have e:=(tA g c).1;refine⟨0,?_⟩;rw[c];obtain⟨P,Q,T⟩:=p;simp only[ib]at e;rw[e.1,e.2,<-f]
inductive XE where
 | normal
 | ret
 | exit (id:Nat)
def XE.ax:XE->AX
 | .normal=>.normal
 | .ret=>.ret
 | .exit i=>.exit i
abbrev XC:=Option (XE×TE×Nat×EL)
def xn:Option (TE×Nat×EL)->XC
 | some r=>some (.normal,r)
 | ab=>ab
abbrev TD:=Code->TE->Nat->EL->XC
def I9(r:XC)(k:TE->Nat->EL->XC):XC:=match r with
 | some (e,q)=>(match e with
  | .normal=>k q.1 q.2.1 q.2.2
  | .ret=>some (.ret,q)
  | .exit i=>some (.exit i,q))
 | ab=>ab
def G0(id:Nat)(r:XC):XC:=match r with
 | some (e,q)=>(match e with
  | .normal=>some (.normal,q)
  | .ret=>some (.ret,q)
  | .exit i=>(match ap i id with
   | true=>some (.normal,q)
   | false=>some (.exit i,q)))
 | ab=>ab
def Ro(b:XV)(x y:XC):XC:=match b with
 | .bool t=>(match t with
  | true=>x
  | false=>y)
 | _=>ab
def Rm(call:eE)(hm:Nat)(ih:TD)(c:Code):TE->Nat->EL->XC:=match c with
 | .skip=>fun te nx l=>some (.normal,te,nx,l)
 | .region id ops b=>(match b with
  | false=>fun te nx l=>xn (qU call ops ops.toList te nx l)
  | true=>fun te nx l=>xn (ES call (jo hm id) ops te nx l))
 | .seq x y=>fun te nx l=>I9 (ih x te nx l) (ih y)
 | .cond b x y=>fun te nx l=>Ro (k8 te b) (ih x te nx l) (ih y te nx l)
 | .block id c=>fun te nx l=>G0 id (ih c te nx l)
 | .loop c=>fun te nx l=>I9 (ih c te nx l) (ih (.loop c))
 | .exit id=>fun te nx l=>some (.exit id,te,nx,l)
 | .ret=>fun te nx l=>some (.ret,te,nx,l)
 | .scope c=>ih c
 | .label _=>fun te nx l=>some (.normal,te,nx,l)
 | _=>fun _ _ _=>ab
def mA(call:eE)(hm:Nat)(n:Nat):TD:=Nat.rec (motive:=fun _=>TD) (fun _ _ _ _=>ab) (fun _ ih=>Rm call hm ih) n
def yZ(call:eE)(a:Nat)(c:Code)(te:TE)(nx:Nat)(l:EL):mA call a 0 c te nx l=ab:=rfl
def iu(call:eE)(a n:Nat)(c:Code)(te:TE)(nx:Nat)(l:EL):mA call a (n+1) c te nx l=Rm call a (mA call a n) c te nx l:=rfl
def kJ(hm:Nat):Code->Bool
 | .region id ops true=>MN ops.toList&&(jo hm id||(tM ops.toList).easy)
 | .seq x y=>kJ hm x&&kJ hm y
 | .cond _ x y=>kJ hm x&&kJ hm y
 | .block _ c=>kJ hm c
 | .loop c=>kJ hm c
 | .scope c=>kJ hm c
 | _=>true
def oP{P:Nat->Prop}(h:∃n,P n):∃n,P n/\∀m,m<n->¬P m:=by
 obtain⟨n,c⟩:=h
 induction n using jN with
 | ind n ih =>
  by_cases h:∃m,m<n/\P m
  .obtain⟨m,a,b⟩:=h;exact ih m a b
  .exact⟨n,c,fun m a b=>h ⟨m,a,b⟩⟩
def Lv(J:Nat->Tm->St->Prop)(h:∀n O S,J n O S->∀k:Tm->St->Prop,(∀m O' S',m<n->J m O' S'->k O' S')->aw c (AX.seq k Q) O S){n:Nat}{O:Tm}{S:St}(g:J n O S):aw (.loop c) Q O S:=by
 classical
 refine⟨fun O S=>∃n,J n O S,fun O S=>if h:∃n,J n O S then dq (oP h)else 0,⟨n,g⟩,fun O S b=>?_⟩
 have i:=de (oP b);have e:(if h:∃n,J n O S then dq (oP h)else 0)=dq (oP b):=by rw[UT b]
 refine h _ O S i.1 _ fun m O' S' j d=>⟨⟨m,d⟩,?_⟩;have a:∃n,J n O' S':=⟨m,d⟩;have e':(if h:∃n,J n O' S' then dq (oP h)else 0)=dq (oP a):=by rw[UT a]
 show(if h:∃n,J n O' S' then dq (oP h)else 0)<(if h:∃n,J n O S then dq (oP h)else 0)
 rw[e,e'];have:=(de (oP a)).2;rcases aC m (dq (oP a))with f|f
 .exact(this m f d).elim
 .omega
def Mq{call:eE}(F:nd call)(G:uR call)(a:Nat):∀(n:Nat) (c:Code) (te:TE) (nx:Nat) (l:EL) (r:XE×TE×Nat×EL),kJ a c=true->mA call a n c te nx l=some r->∀{φ:Ph},GP φ->∀{O:Tm} {S:St},TR φ te O->MR φ l S->∀{Q:AX->Tm->St->Prop},
  (∀ψ O' S',φ.le ψ->TR ψ r.2.1 O'->MR ψ r.2.2.2 S'->Q r.1.ax O' S')->aw c Q O S:=by
 intro n
 induction n using jN with
 | ind n A =>
 cases n with
 | zero=>intro c te nx l r _ h;rw[yZ]at h;cases h
 | succ n =>
  have ih:=A n om;intro c te nx l r d h φ w O S o q Q f
  cases c with
  | skip=>rw[iu]at h;cases h;exact f φ O S (Ph.le_refl _) o q
  | region id ops b =>
   cases b with
   | false =>
    rw[iu]at h;change xn (qU call ops ops.toList te nx l)=some r at h
    cases g:qU call ops ops.toList te nx l with
    | none=>rw[g]at h;cases h
    | some p =>
     rw[g]at h;cases h;exact BW F g w o q f
   | true =>
    rw[iu]at h;change xn (ES call (jo a id) ops te nx l)=some r at h;simp only[kJ,au]at d
    cases g:ES call (jo a id) ops te nx l with
    | none=>rw[g]at h;cases h
    | some p =>
     rw[g]at h;cases h;exact bH (Me F G d.1 d.2 g w o q f)
  | seq x y =>
   rw[iu]at h;change I9 (mA call a n x te nx l) (mA call a n y)=some r at h;simp only[kJ,au]at d;simp only[aw]
   cases g:mA call a n x te nx l with
   | none=>rw[g]at h;cases h
   | some p =>
    obtain⟨e,te',nx',l'⟩:=p;rw[g]at h;refine ih x te nx l _ d.1 g w o q fun ψ O' S' j s u=>?_
    cases e with
    | normal=>exact ih y te' nx' l' r d.2 h (w.mono j) s u fun χ O'' S'' B C D=>f χ O'' S'' (Ph.le_trans j B) C D
    | ret=>cases h;exact f ψ O' S' j s u
    | exit i=>cases h;exact f ψ O' S' j s u
  | cond b x y =>
   rw[iu]at h;change Ro (k8 te b) (mA call a n x te nx l) (mA call a n y te nx l)=some r at h;simp only[kJ,au]at d;simp only[aw];have E:=o.ev b
   cases z:k8 te b with
   | bool t =>
    rw[z]at h E;simp only[ER]at E;rw[E]
    cases t with
    | true=>exact⟨fun _=>ih x te nx l r d.1 h w o q f,fun e=>by cases e⟩
    | false=>exact⟨fun e=>(by cases e),fun _=>ih y te nx l r d.2 h w o q f⟩
   | _=>rw[z]at h;cases h
  | block id c =>
   rw[iu]at h;change G0 id (mA call a n c te nx l)=some r at h;simp only[kJ]at d;simp only[aw]
   cases g:mA call a n c te nx l with
   | none=>rw[g]at h;cases h
   | some p =>
    obtain⟨e,p⟩:=p;rw[g]at h;refine ih c te nx l _ d g w o q fun ψ O' S' j s u=>?_
    cases e with
    | normal=>cases h;exact f ψ O' S' j s u
    | ret=>cases h;exact f ψ O' S' j s u
    | exit i =>
     simp only[G0]at h;show(if i=id then Q .normal else Q (.exit i)) O' S'
     cases z:ap i id with
     | true =>
      rw[z]at h;cases h;rw[ai (ak z)];exact f ψ O' S' j s u
     | false =>
      rw[z]at h;cases h;rw[af (fun e=>by subst e;simp at z)]
      exact f ψ O' S' j s u
  | loop c =>
   simp only[kJ]at d;refine Lv (fun m O S=>m<=n+1/\∃ψ te nx l,φ.le ψ/\TR ψ te O/\MR ψ l S/\mA call a m (.loop c) te nx l=some r) ?_ (n:=n+1) ⟨ae _,φ,te,nx,l,Ph.le_refl _,o,q,h⟩;rintro m O S ⟨H,ψ,te,nx,l,j,s,u,v⟩ k I
   cases m with
   | zero=>rw[yZ]at v;cases v
   | succ m =>
    rw[iu]at v;change I9 (mA call a m c te nx l) (mA call a m (.loop c))=some r at v
    cases g:mA call a m c te nx l with
    | none=>rw[g]at v;cases v
    | some p =>
     obtain⟨e,te',nx',l'⟩:=p;rw[g]at v;have body:∀{Q:AX->Tm->St->Prop},(∀χ O' S',ψ.le χ->TR χ te' O'->MR χ l' S'->Q e.ax O' S')->aw c Q O S:=by
      intro Q f;exact A m om c te nx l _ d g (w.mono j) s u f
     refine body fun χ O' S' B C D=>?_
     cases e with
     | normal=>exact I m O' S' om ⟨om,χ,te',nx',l',Ph.le_trans j B,C,D,v⟩
     | ret=>cases v;exact f χ O' S' (Ph.le_trans j B) C D
     | exit i=>cases v;exact f χ O' S' (Ph.le_trans j B) C D
  | exit id=>rw[iu]at h;cases h;exact f φ O S (Ph.le_refl _) o q
  | ret=>rw[iu]at h;cases h;exact f φ O S (Ph.le_refl _) o q
  | scope c =>
   rw[iu]at h;change mA call a n c te nx l=some r at h;simp only[kJ]at d;simp only[aw];exact ih c te nx l r d h w o q f
  | label _=>rw[iu]at h;cases h;exact f φ O S (Ph.le_refl _) o q
  | _=>rw[iu]at h;cases h
end

def nb(z:Int)(k:Nat):Prop:=z.natAbs<2^k
def nb.mono(h:nb z k)(a:k<=j):nb z j:=dF h (cp om a)
def nb.nl{N:Nat}(h:nb z k)(a:k<=32*N):nl z.natAbs<=N:=by
 rw[jS,zQ];exact h.mono a
def nb.add(c:nb a k)(d:nb b k):nb (a+b) (k+1):=by
 unfold nb at *;rw[cb];omega
def nb.sub(c:nb a k)(d:nb b k):nb (a-b) (k+1):=by
 unfold nb at *;rw[cb];omega
def nb.mul(c:nb a k)(d:nb b j):nb (a*b) (k+j):=by
 unfold nb at *;rw[cJ,fJ];exact Nat.mul_lt_mul_of_lt_of_lt c d
def nb.neg(b:nb a k):nb (-a) k:=by unfold nb at *;omega
def nb.zero(k:Nat):nb 0 k:=iK om
def nb.one(h:0<k):nb 1 k:=dF (by decide:1<2^1) (cp om h)
def nb.of_le(h:a.natAbs<=b.natAbs)(c:nb b k):nb a k:=ee h c
def Uk(h:∀va vb B w,B<=w.heap.size->eJ w B va za->eJ w B vb zb->Calls ah f #[va,vb] w (dL w z)):PF f [.big za,.big zb] (.big z):=CP.pf rfl (SC h)
def pf1(h:∀va B w,B<=w.heap.size->eJ w B va za->Calls ah f #[va] w (dL w z)):PF f [.big za] (.big z):=CP.pf rfl (SD h)
def pf1i{k:IntKind}(h:∀va B w,B<=w.heap.size->eJ w B va za->Calls ah f #[va] w fun e w'=>e=.returned (.int k z)/\Below w.heap.size w w'):PF f [.big za] (.int k z):=by
 intro w vs _ a
 match vs,a with
 | [va],a =>
  simp only[aT,bs]at a;refine(h va w.heap.size w (ae _) a.1).mono ?_;rintro e w' ⟨rfl,b⟩;exact⟨_,rfl,by simp[bs],dz.below b⟩
 | [],a=>simp[aT]at a
 | _::_::_,a=>simp[aT]at a
def pf2i{k:IntKind}(h:∀va vb B w,B<=w.heap.size->eJ w B va za->eJ w B vb zb->Calls ah f #[va,vb] w fun e w'=>e=.returned (.int k z)/\Below w.heap.size w w'):PF f [.big za,.big zb] (.int k z):=by
 intro w vs _ a
 match vs,a with
 | [va,vb],a =>
  simp only[aT,bs]at a;refine(h va vb w.heap.size w (ae _) a.1 a.2.1).mono ?_;rintro e w' ⟨rfl,b⟩;exact⟨_,rfl,by simp[bs],dz.below b⟩
 | [],a=>simp[aT]at a
 | [_],a=>simp[aT]at a
 | _::_::_::_,a=>simp[aT]at a
def Jx(h:∀w,Calls ah f #[.int .i64 z] w (dL w z)):PF f [.int .i64 z] (.big z):=by
 intro w vs _ a
 match vs,a with
 | [va],a =>
  simp only[aT,bs]at a;obtain⟨rfl,_⟩:=a;refine(h w).mono ?_;rintro e w' ⟨v,rfl,b,c⟩;exact⟨v,rfl,by simpa [bs]using b,dz.below c⟩
 | [],a=>simp[aT]at a
 | _::_::_,a=>simp[aT]at a
def Jy(h:∀va B w,B<=w.heap.size->eJ w B va z->Calls ah f #[va] w fun e w'=>e=.returned (.tuple #[.int .i64 z,.bool true])/\Below w.heap.size w w'):PF f [.big z] (.tup [.int .i64 z,.bool true]):=by
 intro w vs _ a
 match vs,a with
 | [va],a =>
  simp only[aT,bs]at a;refine(h va w.heap.size w (ae _) a.1).mono ?_;rintro e w' ⟨rfl,b⟩;exact⟨_,rfl,by simp only[bs];exact⟨[_,_],rfl,by simp[aT,bs]⟩,dz.below b⟩
 | [],a=>simp[aT]at a
 | _::_::_,a=>simp[aT]at a
def wC(c:nb a k)(d:nb b k)(h:k<=8589934592):PF 133 [.big a,.big b] (.big (a+b)):=Uk fun va vb B w e f g=>Rl va vb a b B w e f g (c.nl om) (d.nl om)
def Dg(c:nb a k)(d:nb b k)(h:k<=8589934592):PF 192 [.big a,.big b] (.big (a-b)):=Uk fun va vb B w e f g=>QZ va vb a b B w e f g (c.nl om) (d.nl om)
def p9(c:nb a k)(d:nb b k)(h:k<=8589934592):PF 83 [.big a,.big b] (.big (a*b)):=Uk fun va vb B w e f g=>Ra va vb a b B w e f g (c.nl om) (d.nl om)
def sW(b:nb a k)(e:k<=8589934592):PF 193 [.big a] (.big (-a)):=pf1 fun va B w c d=>Q9 va a B w c d (b.nl om)
def rS(b:nb a k)(e:k<=8589934592):PF 157 [.big a] (.big a):=pf1 fun va B w c d=>BI va a B w c d (b.nl om)
def kY(b:nb a k)(e:k<=8589934592):PF 191 [.big a] (.int .i64 a.sign):=pf1i fun va B w c d=>AS va a B w c d (b.nl om)
def NV(c:nb a k)(d:nb b k)(h:k<=8589934592):PF 159 [.big a,.big b] (.int .i64 (lG a b)):=pf2i fun va vb B w e f g=>Ri va vb a b B w e f g (c.nl om) (d.nl om)
def kQ(b:-9223372036854775808<=a)(c:a<=9223372036854775807):PF 81 [.int .i64 a] (.big a):=Jx fun w=>LM a w b c
def t8(h:jk a):PF 84 [.big a] (.tup [.int .i64 a,.bool true]):=Jy fun va B w b c=>LW va a B w b c h
def Le(d:nb a k)(f:nb b k)(p:k<=8589934592)(g:b≠0)(i:a.natAbs<b.natAbs∨nb a 64):PF 82 [.big a,.big b] (.tup [.big (a/b),.big (a%b),.bool true]):=by
 intro w vs _ c
 match vs,c with
 | [va,vb],c =>
  simp only[aT,bs]at c;refine(Bc va vb a b w.heap.size w (ae _) c.1 c.2.1 (d.nl om) (f.nl om) g (i.imp id fun h=>bF (h.nl om))).mono ?_;rintro e w' ⟨j,l,rfl,m,n,o⟩;exact⟨_,rfl,by simp only[bs];exact⟨[j,l,.bool true],rfl,by simp only[aT,bs];exact⟨m,n,trivial,trivial⟩⟩,dz.below o⟩
 | [],c=>simp[aT]at c
 | [_],c=>simp[aT]at c
 | _::_::_::_,c=>simp[aT]at c
def Io(f:nb a k)(d:nb b 32)(n:k<=1000000)(g:b≠0):PF 82 [.big a,.big b] (.tup [.big (a/b),.big (a%b),.bool true]):=by
 intro w vs _ c
 match vs,c with
 | [va,vb],c =>
  simp only[aT,bs]at c;refine(Bc va vb a b w.heap.size w (ae _) c.1 c.2.1 (f.nl om) (d.nl om) g (.inr (.inr (d.nl om)))).mono ?_;rintro e w' ⟨h,i,rfl,j,l,m⟩;exact⟨_,rfl,by simp only[bs];exact⟨[h,i,.bool true],rfl,by simp only[aT,bs];exact⟨j,l,trivial,trivial⟩⟩,dz.below m⟩
 | [],c=>simp[aT]at c
 | [_],c=>simp[aT]at c
 | _::_::_::_,c=>simp[aT]at c
def Cj(h:jk a):PF 72 [.big a] (.tup [.int .i64 a,.bool true]):=Jy fun va B w b c=>En va a B w b c h
def tP(c:nb a k)(d:nb b k)(h:k<=8589934592):PF 87 [.big a,.big b] (.big (a+b)):=Uk fun va vb B w e f g=>CZ va vb a b B w e f g (c.nl om) (d.nl om)
def tL(c:nb a k)(d:nb b k)(h:k<=8589934592):PF 66 [.big a,.big b] (.big (a-b)):=Uk fun va vb B w e f g=>LL va vb a b B w e f g (c.nl om) (d.nl om)
def ja(c:nb a k)(d:nb b k)(h:k<=8589934592):PF 67 [.big a,.big b] (.big (a*b)):=Uk fun va vb B w e f g=>LO va vb a b B w e f g (c.nl om) (d.nl om)
def yx(b:nb a k)(e:k<=8589934592):PF 68 [.big a] (.big (-a)):=pf1 fun va B w c d=>CQ va a B w c d (b.nl om)
def tQ(b:nb a k)(e:k<=8589934592):PF 45 [.big a] (.big a.natAbs):=pf1 fun va B w c d=>L5 va a B w c d (b.nl om)
def Fo(b:nb a k)(e:k<=8589934592):PF 126 [.big a] (.big a):=pf1 fun va B w c d=>wH va a B w c d (b.nl om)
def jR(b:nb a k)(e:k<=8589934592):PF 64 [.big a] (.int .i64 a.sign):=pf1i fun va B w c d=>tg va a B w c d (b.nl om)
def ni(c:nb a k)(d:nb b k)(h:k<=8589934592):PF 30 [.big a,.big b] (.int .i64 (lG a b)):=pf2i fun va vb B w e f g=>L0 va vb a b B w e f g (c.nl om) (d.nl om)
def gJ(b:-9223372036854775808<=a)(c:a<=9223372036854775807):PF 29 [.int .i64 a] (.big a):=Jx fun w=>Gp a w b c

def Oo(va:Value)(za:Int)(B:Nat)(w:World)(hB:B<=w.heap.size)(ha:eJ w B va za)(sa:nl za.natAbs<=536870912)(hz:¬jk za) :
  Calls ah 84 #[va] w fun e w'=>e=.returned (.tuple #[.int .i64 0,.bool false])/\Below w.heap.size w w':=by
 obtain⟨s1,A,n,c,xs,rfl,hnc,hx,tx,rfl⟩:=ha;rw[fP,<-aJ hx tx]at sa;have hb0:=(aX w.heap.size w).alloc (ae _) (Obj.cells #[Value.bool s1,Value.slice A n c] 50);have hv2:n<=2->aZ xs<18446744073709551616:=fun h=>by
  rw[aJ hx tx]at h;have:=jS.1 h;omega
 have HU:=ac (hx.below hb0 hB);have HX:=ac hx;clear hx;have HTX:=ac tx;clear tx;have HB:=ac hb0;clear hb0;unfold jk at hz;by_cases hn:n<=2
 .have hv3:=hv2 hn;have hn2:¬((2:Int)<(n:Int)):=om
  have hn3:decide ((2:Int)<(n:Int))=false:=by simpa using hn2
  cases s1
  .have hv:(sg false (aZ xs))=(aZ xs:Int):=by simp[sg]
   rw[hv]at hz;clear hv;generalize hvv:aZ xs=v at hz hv3 hv2;have HV:=ac hvv;clear hvv;have hl:¬(v:Int)<9223372036854775808:=om
   have hl2:decide ((v:Int)<9223372036854775808)=false:=by simpa using hl
   clear hv2 hz hv3
   go_enter J7,EI
   go_wp2_with fail
   refine(fY A n c B xs _ hnc om HU.out HTX.out).mono ?_;rintro e w' ⟨rfl,rfl⟩
   go_wp2_with fail
   refine(mC A n c B xs _ hn HU.out).mono ?_;rintro e w' ⟨rfl,rfl⟩;rw[HV.out];go_wp2;go_ret2;exact⟨rfl,HB.out⟩
  .have hv:(sg true (aZ xs))=-(aZ xs:Int):=by simp[sg]
   rw[hv]at hz;clear hv;generalize hvv:aZ xs=v at hz hv3 hv2;have HV:=ac hvv;clear hvv;have hl:¬(v:Int)<=9223372036854775808:=om
   have hl2:decide ((v:Int)<=9223372036854775808)=false:=by simpa using hl
   clear hv2 hz hv3
   go_enter J7,EI
   go_wp2_with fail
   refine(fY A n c B xs _ hnc om HU.out HTX.out).mono ?_;rintro e w' ⟨rfl,rfl⟩
   go_wp2_with fail
   refine(mC A n c B xs _ hn HU.out).mono ?_;rintro e w' ⟨rfl,rfl⟩;rw[HV.out];go_wp2;go_ret2;exact⟨rfl,HB.out⟩
 .have hn2:(2:Int)<(n:Int):=om
  have hn3:decide ((2:Int)<(n:Int))=true:=by simpa using hn2
  clear hv2 hz
  go_enter J7,EI
  go_wp2_with fail
  refine(fY A n c B xs _ hnc om HU.out HTX.out).mono ?_;rintro e w' ⟨rfl,rfl⟩;go_wp2;go_ret2;exact⟨rfl,HB.out⟩
def Nv(c:nb a k)(f:k<=8589934592)(h:¬jk a):PF 84 [.big a] (.tup [.int .i64 0,.bool false]):=by
 intro w vs _ b
 match vs,b with
 | [va],b =>
  simp only[aT,bs]at b;refine(Oo va a w.heap.size w (ae _) b.1 (c.nl om) h).mono ?_;rintro e w' ⟨rfl,d⟩;exact⟨_,rfl,by simp only[bs];exact⟨[_,_],rfl,by simp[aT,bs]⟩,dz.below d⟩
 | [],b=>simp[aT]at b
 | _::_::_,b=>simp[aT]at b

def Ij(a p:Nat)(w:World)(ha:a<1000000)(hp:p<1000000):Calls ah 124 #[.int .i64 a,.int .i64 p] w fun e w'=>e=.returned (.int .i64 (bz a p).1)/\d9 w w':=by
 go_enter func124,ntmps124
 go_wp2
 go_loopw [0,1] (fun iv jv wr=>∃x y:Nat,iv=.int .i64 x/\jv=.int .i64 y/\x<1000000/\y<1000000/\Hid (d9 w wr)/\Hid ((bz x y).1=(bz a p).1)) (fun _ jv _=>(intOf jv).toNat)
 case atStart=>exact⟨a,p,rfl,rfl,ha,hp,ac (d9.refl w),ac rfl⟩
 case round =>
  obtain⟨x,y,rfl,rfl,hx,hy,HQ,HD⟩:=hrel;by_cases h0:y=0
  .subst h0;have hr:=ac (show((x:Nat):Int)=(bz a p).1 by have:=HD.out;rw[nk]at this;exact this)
   go_wp2;go_ret;exact⟨by rw[hr.out];rfl,HQ.out⟩
  .have hyz:((y:Nat):Int)≠0:=om
   have hlt:=ac (dj x (gO h0));go_wp2
   go_quiet (fail)
   go_wp2;refine⟨⟨y,x%y,rfl,by rw[lP],hy,by have:=hlt.out;omega,ac (by repeat' (first|exact HQ.out|apply d9.more)),ac (by rw[<-HD.out,rW x h0])⟩,?_⟩
   have h2:=hlt.out;rw[<-lP];exact h2
def K8(a p:Nat)(c:a<1000000)(d:p<1000000):PF 124 [.int .i64 a,.int .i64 p] (.int .i64 (bz a p).1):=by
 intro w vs _ b
 match vs,b with
 | [va,vb],b =>
  simp only[aT,bs]at b;obtain⟨rfl,rfl,_⟩:=b;refine(Ij a p w c d).mono ?_;rintro e w' ⟨rfl,f⟩;exact⟨_,rfl,by simp[bs],dz.below (f.below _)⟩
 | [],b=>simp[aT]at b
 | [_],b=>simp[aT]at b
 | _::_::_::_,b=>simp[aT]at b

end Go.Proofs.YtdobfmlmenaajaaGreatDoor
