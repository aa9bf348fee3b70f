/-
  Lemmas for NeighbourRaw.
-/
import Derived.Test.YtdobfmlmenaajaaGreatDoorH07
import Derived.LoopN
import Derived.Scope
namespace Go.Proofs.YtdobfmlmenaajaaGreatDoor
open Go.RowKit Tryz
open _root_.Array renaming replicate→kX
open _root_.List renaming getD→cT,range→gF
open _root_.Option renaming none→ab
open Region renaming ready→kL,wanted→oZ
open Tryz renaming prog→ah
set_option maxHeartbeats 6400000
set_option maxRecDepth 4096
set_option linter.all false
variable{x z:AV}{a:Act}{listed:Array Bool}{ops:Array Oper}{mv:Bool}{c:Code}{Q:Exit->Act->World->Prop}{jss:List (List Nat)}{l:List Oper}{N f id j k q t:Nat}{M:Nat->Prop}{o:Oper}{d:Option Nat}{S:St}{O:Tm}{K:Tm->St->Prop}{w:World}
def Nu(l:List Oper)(q j:Nat):Bool:=decide (j<q)&&(match l[j]? with
 | some o=>Fr o.op&&(match o.dst with
  | some d=>(l.zipIdx.drop q).all (fun p=>(match p.1.dst with
    | some t=>!(looks o).contains t&&decide (t≠d)
    | ab=>true)&&(!(looks p.1).contains d||(aft p.1).contains j))
  | _=>false)
 | ab=>false)
def Nt(l:List Oper)(j:Nat):Bool:=match l[j]? with
 | some o=>(match o.op with
  | .move _=>true
  | _=>false)
 | ab=>false
def DI:List (List Nat)->List Nat
 | []=>[]
 | js::_=>js
def Nr:List (List Nat)->List (List Nat)
 | []=>[]
 | [js]=>[js]
 | _::r=>r
def Id(jss:List (List Nat)):Nat->List (List Nat)
 | 0=>jss
 | k+1=>Nr (Id jss k)
def xF(ops:Array Oper)(q:Nat)(jss:List (List Nat))(mv:Bool):Bool :=
 let l:=ops.toList
 l.all (fun o=>o.guard.isNone) &&
 l.zipIdx.all (fun p=>(aft p.1).all (fun k=>decide (k<p.2))) &&
 (l.take q).zipIdx.all (fun p=>(l.take q).zipIdx.all (fun r=>match r.1.dst with
  | some t=>!(looks p.1).contains t||(decide (r.2<p.2)&&(aft p.1).contains r.2)
  | ab=>true)) &&
 (l.take q).zipIdx.all (fun p=>(l.take q).zipIdx.all (fun r=>decide (p.2=r.2)||p.1.dst.isNone||p.1.dst != r.1.dst)) &&
 (l.zipIdx.drop q).all (fun p=>(gF p.2).all (fun j=>(aft p.1).contains j||(((DI (Id jss (p.2-q))).contains j||(mv&&Nt l j))&&Nu l q j)||tO ops 12 j p.2)) &&
 decide (q<=l.length)
def mR(ops:List Oper)(O:Tm)(S:St):List Nat->Prop
 | []=>True
 | j::js=>(match ops[j]? with
  | some o=>(match o.dst with
   | some d=>BM o O S (O d)
   | ab=>False)
  | ab=>False)/\mR ops O S js
def QH(ops:List Oper):List (List Nat)->List Oper->Tm->St->(Tm->St->Prop)->Prop
 | _,[],O,S,K=>K O S
 | jss,o::l,O,S,K=>AI o O S (fun z S'=>mR ops (O.put o.dst z) S' (DI jss)/\QH ops (Nr jss) l (O.put o.dst z) S' K)
def tlX(ops:Array Oper)(jss:List (List Nat))(l:List Oper)(O:Tm)(S:St)(K:Tm->St->Prop):Prop:=(jss=[]/\Gc ops l O S K)∨QH ops.toList jss l O S K
def awX(ops:Array Oper)(O:Tm)(S:St)(K:Tm->St->Prop):Prop:=∃q jss mv H,xF ops q jss mv=true/\GJ (ops.toList.take q) O S [] H/\∀O' p,H O' p ->
 (p.isEmpty=true/\tlX ops jss (ops.toList.drop q) O' S K) ∨
 (mv=false/\∃K',oE p (Ao (qb (ops.toList.take q)) O') S K'/\∀O S,K' O S->mR ops.toList O S (DI jss)/\tlX ops jss (ops.toList.drop q) O S K)
theorem sY{ops:List Oper}{O:Tm}{S:St}:∀{js:List Nat},mR ops O S js->∀j∈js,∃o d,ops[j]? = some o/\o.dst=some d/\BM o O S (O d)
 | [],_,j,b=>by cases b
 | i::js,h,j,b=>by
  simp only[mR]at h;rcases sJ.1 b with rfl|b
  .have a:=h.1
   cases e:ops[j]? with
   | none=>rw[e]at a;exact a.elim
   | some o =>
    rw[e]at a;simp only at a
    cases c:o.dst with
    | none=>rw[c]at a;exact a.elim
    | some d=>rw[c]at a;exact⟨o,d,rfl,c,a⟩
  .exact sY h.2 j b
def TT{S':St}(c:l[j]? = some o)(a:Nt l j=true)(h:BM o O S z):BM o O S' z:=by
 simp only[Nt,c]at a;split at a
 .rename_i x b;rcases h with⟨d,h⟩|h
  .refine bF ⟨d,?_⟩;unfold AI at h ⊢;rw[b]at h ⊢;exact⟨h.1,rfl⟩
  .rw[b]at h;exact h.elim
 .cases a
structure wO(ops:Array Oper)(q j:Nat)(o:Oper)(d:Nat):Prop where
 lt:j<q
 op:ops[j]? = some o
 dst:o.dst=some d
 pure:Fr o.op=true
 tail:∀(i:Nat) (p:Oper),q<=i->ops[i]? = some p->(∀t,p.dst=some t->t ∉ looks o/\t≠d)/\(d∈looks p->j∈aft p)
structure GOK(ops:Array Oper)(q:Nat)(jss:List (List Nat))(mv:Bool):Prop where
 guard:∀(i:Nat) (o:Oper),ops[i]? = some o->o.guard=ab
 back:∀(i:Nat) (o:Oper),ops[i]? = some o->∀k∈aft o,k<i
 reads:∀(i:Nat) (o:Oper) (j:Nat) (p:Oper) (t:Nat),i<q->j<q->ops[i]? = some o->ops[j]? = some p->p.dst=some t->t∈looks o->j<i/\j∈aft o
 apart:∀(i:Nat) (o:Oper) (j:Nat) (p:Oper) (t:Nat),i<q->j<q->ops[i]? = some o->ops[j]? = some p->o.dst=some t->p.dst=some t->i=j
 tail:∀(i:Nat) (o:Oper),q<=i->ops[i]? = some o->∀j,j<i->(j∈aft o∨tO ops 12 j i=true)∨((j∈DI (Id jss (i-q))∨mv=true/\Nt ops.toList j=true)/\∃p d,wO ops q j p d)
 le:q<=ops.size
def Im(h:xF ops q jss mv=true):GOK ops q jss mv:=by
 simp only[xF,au,gE]at h;obtain⟨⟨⟨⟨⟨y,z⟩,A⟩,B⟩,C⟩,D⟩:=h;have gl:∀{i:Nat} {o:Oper},ops[i]? = some o->ops.toList[i]? = some o:=fun h=>by simpa using h
 have tk:∀{i:Nat} {o:Oper},i<q->ops[i]? = some o->(o,i)∈(ops.toList.take q).zipIdx:=fun c b=>ml (by rw[qO,ai c];exact gl b)
 have dm:∀{i:Nat} {o:Oper},q<=i->ops[i]? = some o->(o,i)∈ops.toList.zipIdx.drop q:=fun {i o} c b=>by
  rw[List.mem_iff_getElem?];exact⟨i-q,by rw[qP,(om:q+(i-q)=i),List.getElem?_zipIdx,gl b];simp⟩
 refine⟨fun i o b=>?_,fun i o b k E=>?_,fun i o j p t c l b m n F=>?_,fun i o j p t c l b m n r=>?_,fun i o c b j l=>?_,by simpa using D⟩
 .simpa using aG.1 y o (fL (gl b))
 .simpa using aG.1 (aG.1 z (o,i) (ml (gl b))) k E
 .have:=aG.1 (aG.1 A (o,i) (tk c b)) (p,j) (tk l m);simp only[n]at this;simp only[gM,ll,au,gE]at this;rcases this with a|a
  .simp at a;exact absurd F a
  .exact⟨a.1,by simpa using a.2⟩
 .have:=aG.1 (aG.1 B (o,i) (tk c b)) (p,j) (tk l m);simp only[n,r]at this;simpa using this
 .have:=aG.1 (aG.1 C (o,i) (dm c b)) j (by simpa using l)
  simp only[gM]at this;rcases this with (a|a)|a
  .exact bF (bF (by simpa using a))
  .right;rw[au]at a;obtain⟨s,a⟩:=a;refine⟨by simpa using s,?_⟩
   simp only[Nu,au,gE]at a;obtain⟨u,a⟩:=a
   cases e:ops.toList[j]? with
   | none=>rw[e]at a;cases a
   | some oj =>
    rw[e]at a;simp only[au]at a;obtain⟨v,a⟩:=a
    cases f:oj.dst with
    | none=>rw[f]at a;cases a
    | some d =>
     rw[f]at a;refine⟨oj,d,u,by simpa using e,f,v,fun i' p w m=>?_⟩
     have x:=aG.1 a (p,i') (dm w m);simp only[au,gM,ll]at x;refine⟨fun t n=>?_,fun G=>?_⟩
     .have g:=x.1;rw[n]at g;simpa using g
     .rcases x.2 with g|g
      .simp at g;exact absurd G g
      .simpa using g
  .exact bF (bH a)
structure IZ(ops:Array Oper)(q:Nat)(S:St)(O1:Tm)(al:Nat->Option eS)(N:Nat)(a0:Act)(w0:World)(listed:Array Bool)(a:Act)(w:World):Prop where
 size:listed.size=ops.size
 tailU:∀i,q<=i->i<ops.size->listed.getD i true=false
 defers:a.defers=[]
 tsize:a.tmps.size=N
 gr:dz BJ BJ w0 w
 tm:∀t,(∀(j:Nat) (o:Oper),j<q->ops[j]? = some o->o.dst=some t->listed.getD j false=true)->bs w S.dom (O1 t) (a.tmps.getD t undef)
 old:∀t,(∀(j:Nat) (o:Oper),j<q->ops[j]? = some o->o.dst≠some t)->a.tmps.getD t undef=a0.tmps.getD t undef
 news:∃B:Nat->Nat,(∀(i:Nat) (o:Oper) (X:eS) (d:Nat),i<q->ops[i]? = some o->al i=some X->o.dst=some d->listed.getD i false=true ->
   a.tmps.getD d undef=.pointer (some ⟨B i,0,ab⟩)/\w0.heap.size<=B i/\∃zc,w.heap[B i]? = some (.cells zc X.ty (0,0))/\ZX X zc) /\
  ∀i j,i<q->j<q->(al i).isSome=true->(al j).isSome=true->listed.getD i false=true->listed.getD j false=true->B i=B j->i=j
def uW(ops:Array Oper)(q:Nat)(listed:Array Bool)(t:Nat):Prop:=∃j o,listed.getD j true=false/\wO ops q j o t
structure IK(ops:Array Oper)(q:Nat)(jss:List (List Nat))(K:Tm->St->Prop)(D:Nat->Prop)(N:Nat)(w0:World)(listed:Array Bool)(a:Act)(w:World):Prop where
 ex:∃k O S,q<=k/\k<=ops.size/\listed.size=ops.size/\(∀i,q<=i->i<ops.size->(listed.getD i true=true↔i<k)) /\
  (∀j,j<q->listed.getD j true=false->∃o d,wO ops q j o d/\BM o O S (O d))/\tlX ops (Id jss (k-q)) (ops.toList.drop k) O S K /\
  a.defers=[]/\a.tmps.size=N/\eM w S/\(∀t,¬uW ops q listed t->bs w S.dom (O t) (a.tmps.getD t undef))/\dz D S.dom w0 w
theorem tT{α β:Type}{f:α->β}:∀{l:List α},l.Nodup->(∀x∈l,∀y∈l,f x=f y->x=y)->(l.map f).Nodup
 | [],_,_=>by simp
 | a::l,h,c=>by
  simp only[wJ]at h;simp only[cU,wJ,ie,not_exists,not_and];refine⟨fun x b e=>?_,tT h.2 (fun x b y d=>c x (dT _ b) y (dT _ d))⟩;have:=c x (dT _ b) a (eH ..) e;subst this;exact h.1 b
def Ck(n i:Nat):(kX n false).getD i false=false:=by
 rw[cO,OS];split<;>rfl
def DO(h:j<listed.size):listed.getD j true=listed.getD j false:=by simp[Array.getD,h]
def oA(h:listed.getD k false=true):listed.getD k true=true:=by
 rw[cO]at h ⊢
 cases a:listed[k]? with
 | none=>rw[a]at h;cases h
 | some b=>rw[a]at h;exact h
def Ps:O.put ab x=O:=by rw[Tm.put_eq]
def tR(h:d≠some t):O.put d x t=O t:=by
 cases d with
 | none=>rw[Ps]
 | some d=>simp only[Tm.put_eq];rw[af];intro e;exact h (by rw[e])
def MT:O.put (some t) x t=x:=by simp[Tm.put_eq]
def Am{i d:Nat}(b:xE N ops.toList=true)(c:ops[i]? = some o)(a:o.dst=some d):d<N:=by
 have:=aG.1 b o (fL (by simpa using c:ops.toList[i]? = some o))
 rw[a]at this;simpa using this
def vT(c:∀(i:Nat) (o:Oper),ops[i]? = some o->∀k∈aft o,k<i)(e:listed.size=ops.size)(a:kL .any ops listed=[]):∀j,j<ops.size->listed.getD j false=true:=by
 intro j
 induction j using Nat.strongRecOn with
 | _ j ih =>
  intro b
  cases f:listed.getD j false with
  | true=>rfl
  | false =>
   have:j∈kL .any ops listed:=MO (cw b) ((DO om).trans f) (fun k d=>ih k (c j _ (cw b) k d) (by have:=c j _ (cw b) k d;omega))
   rw[a]at this;cases this
theorem uC{P:Nat->Prop}:∀(pend:List (Nat×eS)) (O0:Tm) {O1:Tm} (S:St) (K:Tm->St->Prop),oE pend O0 S K->(∀t,¬P t->O1 t=O0 t)->oE pend O1 S (fun O S=>∃O',(∀t,¬P t->O t=O' t)/\K O' S)
 | [],O0,O1,S,K,h,a=>by simp only[oE]at h ⊢;exact⟨O0,a,h⟩
 | (d,X)::r,O0,O1,S,K,h,a=>by
  simp only[oE]at h ⊢;intro b c;refine uC r _ _ K (h b c) (fun t e=>?_);simp only[Tm.put_eq];split
  .rfl
  .exact a t e
def Lw(h:awX ops O S K)(hr:RT O S N a w)(hd:xE N ops.toList=true)
  (hq:∀O' S' a' w',K O' S'->RT O' S' N a' w'->dz S.dom S'.dom w w'->Q .normal a' w'):(Code.region id ops true).wp ah Q a w:=by
 classical
 obtain⟨q,jss,mv,H0,hok,hH,hX⟩:=h;have D:=Im hok;have hlen:(ops.toList.take q).length=q:=by rw[gS];have:=D.le;simp;omega
 obtain⟨Os,al,e0,hK,hi⟩:=CI _ _ _ _ _ hH;rw[hlen]at hK
 replace hK:=hX _ _ hK
 have hi':∀(i:Nat) (o:Oper),i<q->ops[i]? = some o->(∃t d X,o.op=.alloc t/\o.dst=some d/\mT t=some X/\al i=some X/\Os (i+1)=(Os i).put (some d) .any) ∨
   (al i=ab/\∃z,BM o (Os i) S z/\Os (i+1)=(Os i).put o.dst z):=fun i o c g=>hi i o (by rw[qO,ai c];simpa using g)
 have stable:∀t k i,i<=k->k<=q->(∀j o,i<=j->j<k->ops[j]? = some o->o.dst≠some t)->Os k t=Os i t:=by
  intro t k
  induction k with
  | zero=>intro i l _ _;rw[(om:i=0)]
  | succ k ih =>
   intro i l n G;by_cases e:i=k+1
   .rw[e]
   .have hk:k<ops.size:=by have:=D.le;omega
    have I:=G k _ om om (cw hk);refine Eq.trans ?_ (ih i om om (fun j o U r g=>G j o U om g));rcases hi' k _ om (cw hk)with⟨_,d,X,_,n,_,_,C⟩|⟨_,z,_,C⟩
    .rw[C];exact tR (by rw[<-n];exact I)
    .rw[C];exact tR I
 have kept:∀(i:Nat) (o:Oper) (d:Nat) (x:AV),i<q->ops[i]? = some o->o.dst=some d->Os (i+1)=(Os i).put (some d) x->Os q d=x:=by
  intro i o d x c g hdd hO;rw[stable d q (i+1) om (ae _) (fun j p U r hp hpd=>by
   have:=D.apart i o j p d c r g hp hdd hpd;omega),hO]
  exact MT
 have seen:∀(i:Nat) (o:Oper) (t:Nat),i<q->ops[i]? = some o->t∈looks o->Os q t=Os i t:=fun i o t c g I =>
  stable t q i om (ae _) (fun j p U r hp hpt=>by
   have:=(D.reads i o j p t c r g hp hpt I).1;omega)
 have w0s:eM w.drew S:=hr.st.drew;have r0:RT O S N a w.drew:=⟨hr.defers,hr.size,fun t=>bs.grow hr.st.noU (dz.drew _ w) _ _ (hr.tm t),w0s⟩;have came:∀(listed:Array Bool) (i j:Nat) (o:Oper),wV ops listed->ops[i]? = some o->(∀k∈aft o,listed.getD k false=true)->(j∈aft o∨tO ops 12 j i=true)->listed.getD j false=true :=
  fun listed i j o V g m h=>h.elim (m j) (tN V 12 j i o g m)
 have HT:∀listed a' w',IZ ops q S (Os q) al N a w.drew listed a' w'->(∀j,j<q->listed.getD j true=false->(j∈DI jss∨mv=true/\Nt ops.toList j=true)/\∃o d,wO ops q j o d)->IK ops q jss K S.dom N w.drew listed a' w':=by
  intro listed a' w' H W;have hlist:∀(j:Nat) (o:Oper),j<q->ops[j]? = some o->listed.getD j true≠false->listed.getD j false=true:=by
   intro j o A g hn;rw[DO (by rw[H.size];exact(fO.1 g).1)]at hn
   simpa using hn
  have hpure:∀(i:Nat) (o:Oper) (d:Nat),i<q->wO ops q i o d->al i=ab/\∃z,BM o (Os i) S z/\Os (i+1)=(Os i).put o.dst z:=by
   intro i o d c R;rcases hi' i o c R.op with⟨t,d,Y,l,_⟩|l
   .have:=R.pure;rw[l]at this;simp[Fr]at this
   .exact l
  have halloc:∀(i:Nat) (o:Oper) (X:eS),i<q->ops[i]? = some o->al i=some X->listed.getD i false=true:=by
   intro i o X c g hX;refine hlist i o c g (fun J=>?_);obtain⟨_,o',d,R⟩:=W i c J;rw[(hpure i o' d c R).1]at hX;cases hX
  have hS:eM w' S:=w0s.frozen H.gr;have htm:∀t,¬uW ops q listed t->bs w' S.dom (Os q t) (a'.tmps.getD t undef):=fun t I=>H.tm t (fun j o A g hot=>by
   refine hlist j o A g (fun J=>?_);obtain⟨_,o',d,R⟩:=W j A J;have ho':=R.op;rw[g]at ho';cases ho';have E:=R.dst;rw[hot]at E;cases E;exact I ⟨j,o,J,R⟩)
  suffices hsuf:∃O' S',(∀j,j<q->listed.getD j true=false->∃o d,wO ops q j o d/\BM o O' S' (O' d))/\tlX ops jss (ops.toList.drop q) O' S' K/\eM w' S'/\(∀t,¬uW ops q listed t->bs w' S'.dom (O' t) (a'.tmps.getD t undef))/\dz S.dom S'.dom w.drew w' by
   obtain⟨O',S',g1,g2,g3,g4,g5⟩:=hsuf;refine⟨q,O',S',ae _,D.le,H.size,fun i hi1 hi2=>?_,g1,by rw[ct];exact g2,H.defers,H.tsize,g3,g4,g5⟩
   rw[H.tailU i hi1 hi2];constructor
   .intro h;cases h
   .intro h;omega
  rcases hK with⟨_,hT⟩|⟨hmv,K',hA,hK'⟩
  .refine⟨Os q,S,fun j A F=>?_,hT,hS,htm,H.gr.any _⟩;obtain⟨_,o,d,R⟩:=W j A F;obtain⟨_,z,hz,hO⟩:=hpure j o d A R;refine⟨o,d,R,?_⟩;rw[kept j o d z A R.op R.dst (by rw[hO,R.dst])]
   exact rZ (tW fun t I=>(seen j o t A R.op I).symm) hz
  generalize hpe:(([]:List (Nat×eS))++(gF q).filterMap (fun i=>(al i).bind fun X=>((ops.toList.take q)[i]?).bind fun o=>o.dst.map fun d=>(d,X)))=pend at hA;have hK2:=uC (O1:=fun t=>if uW ops q listed t then .any else Ao (qb (ops.toList.take q)) (Os q) t) (P:=uW ops q listed) pend _ S _ hA (fun t I=>by simp only[af I])
  obtain⟨B,hB1,hB2⟩:=H.news
  let idx:=(gF q).filter (fun i=>((al i).bind fun X=>((ops.toList.take q)[i]?).bind fun o=>o.dst.map fun d=>(d,X)).isSome)
  let f:Nat->Nat×eS×Nat:=fun i=>match ((al i).bind fun X=>((ops.toList.take q)[i]?).bind fun o=>o.dst.map fun d=>(d,X))with
   | some (d,X)=>(d,X,B i)
   | ab=>(0,⟨0,0,0,fun _=>.any⟩,B i)
  have hidx:∀i∈idx,∃o X d,i<q/\ops[i]? = some o/\al i=some X/\o.dst=some d/\f i=(d,X,B i):=by
   intro i hii;simp only[idx,pK,jq]at hii;obtain⟨l,n⟩:=hii;obtain⟨p,hp⟩:=Option.isSome_iff_exists.1 n;have R:f i=(p.1,p.2,B i):=by simp only[f,hp]
   simp only[Option.bind_eq_some_iff,cV]at hp;obtain⟨X,hX,o,g,d,hd1,hd2⟩:=hp;rw[qO,ai l]at g;refine⟨o,X,d,l,by simpa using g,hX,hd1,?_⟩
   rw[R,<-hd2]
  have hpend:pend=(idx.map f).map fun x=>(x.1,x.2.1):=by
   rw[<-hpe,wK,List.map_map];simp only[idx];generalize gF q=rg
   induction rg with
   | nil=>rfl
   | cons i rg ih =>
    simp only[Bi,List.filter_cons]
    cases hc:((al i).bind fun X=>((ops.toList.take q)[i]?).bind fun o=>o.dst.map fun d=>(d,X))with
    | none=>simp only[Option.isSome_none,bJ,aS];exact ih
    | some p=>simp only[Option.isSome_some,aQ,cU];rw[<-ih];simp only[Function.comp,f,hc]
  rw[hpend]at hK2
  let M:Nat->Prop:=fun b=>S.dom b∨w.drew.heap.size<=b
  have hnuM:NoU M w.drew:=by
   intro b hb cs ty fr hc;rcases hb with hb|hb
   .exact w0s.noU b hb cs ty fr hc
   .exact absurd (gA hc) om
  have up:∀x v,bs w.drew S.dom x v->bs w' M x v:=fun x v hx =>
   bs.grow hnuM (H.gr.any M) x v (bs.turn (M:=S.dom) (M':=M) (fun k hk hm=>by
    rcases hm with hm|hm
    .exact hm
    .omega) x v hx)
  have hres:=xK (a:=a') (w:=w') (N:=N) (B0:=w.drew.heap.size) (M:=M) (idx.map f) _ S hK2
   (fun b X hX=>by
    obtain⟨cs,l,n,G,L⟩:=w0s b X hX;exact⟨cs,(H.gr.keep b (gA l) (fun x=>x)).trans l,n,fun j A=>by obtain⟨u,C,h6⟩:=G j A;exact⟨u,C,up _ _ h6⟩,L⟩)
   (fun t=>by
    by_cases hlt:uW ops q listed t
    .simp only[ai hlt];simp[bs]
    simp only[af hlt,Ao];by_cases hin:(qb (ops.toList.take q)).contains t=true
    .by_cases hmf:pI (Os q t)=true
     .simp only[hmf,BQ,Vq,bJ,aS];exact tV hmf (htm t hlt)
     .simp only[hin,hmf,qS,Bool.and_self,aQ];simp[bs]
    .simp only[hin,Bool.false_and,bJ,aS];have hno:∀(j:Nat) (o:Oper),j<q->ops[j]? = some o->o.dst≠some t:=by
      intro j o A g hdt;apply hin;simp only[qb,List.contains_iff_mem,UO];exact⟨o,fL (i:=j) (by rw[qO,ai A];simpa using g),hdt⟩
     rw[H.old t hno,stable t q 0 om (ae _) (fun j o _ A g=>hno j o A g),e0];exact up _ _ (r0.tm t))
   (fun x hx=>by
    obtain⟨i,hii,rfl⟩:=ie.1 hx;obtain⟨o,X,d,l,n,G,L,C⟩:=hidx i hii;rw[C];obtain⟨g1,g2,g3⟩:=hB1 i o X d l n G L (halloc i _ _ l n G);exact⟨g1,g3⟩)
   (by
    rw[List.map_map];refine tT (List.Pairwise.filter _ List.nodup_range) (fun i hii j hjj e=>?_);obtain⟨o,X,d,l,n,G,L,C⟩:=hidx i hii;obtain⟨o',X',d',h1',h2',h3',h4',h5'⟩:=hidx j hjj;simp only[Function.comp,C,h5']at e;exact hB2 i j l h1' (by rw[G];rfl) (by rw[h3'];rfl) (halloc i _ _ l n G) (halloc j _ _ h1' h2' h3') e)
   (fun x hx=>by
    obtain⟨i,hii,rfl⟩:=ie.1 hx;obtain⟨o,X,d,l,n,G,L,C⟩:=hidx i hii;rw[C];obtain⟨g1,g2,g3⟩:=hB1 i o X d l n G L (halloc i _ _ l n G);exact⟨w0s.fresh g2,g2⟩)
  obtain⟨O',S',⟨O2,Z,k1⟩,k2,k3,k4⟩:=hres;obtain⟨k5,k6⟩:=hK' _ _ k1;have hdom:∀k,k<w'.heap.size->S'.dom k->M k:=fun k _ hk=>k4 k hk;refine⟨O2,S',fun j A F=>?_,k6,⟨ez fun e=>(k4 0 e).elim hS.n0 fun h=>absurd w0s.gl.pos om,hS.gl,fun b X hX=>?_⟩,fun t I=>?_,?_⟩
  .obtain⟨hjs|⟨hm,_⟩,o,d,R⟩:=W j A F
   .obtain⟨p',d',l,n,G⟩:=sY k5 j hjs;rw[show ops.toList[j]? = some o by simpa using R.op]at l;cases l
    rw[R.dst]at n;cases n;exact⟨o,d,R,G⟩
   .rw[hmv]at hm;cases hm
  .obtain⟨cs,l,n,G,L⟩:=k2 b X hX;exact⟨cs,l,n,fun j A=>by obtain⟨u,C,h6⟩:=G j A;exact⟨u,C,bs.turn hdom _ _ h6⟩,L⟩
  .rw[<-Z t I];exact bs.turn hdom _ _ (k3 t)
  .refine⟨H.gr.os,H.gr.tape,H.gr.output,H.gr.size,fun k hk _=>H.gr.keep k hk (fun x=>x),H.gr.shape,fun k hk hm=>?_⟩;rcases k4 k hm with h6|h6
   .exact h6
   .exact absurd hk om
 have tailStep:∀listed a' w' i o,IK ops q jss K S.dom N w.drew listed a' w'->wV ops listed->ops[i]? = some o->listed.getD i true=false->(∀k∈aft o,listed.getD k false=true)->o.wp ah a' w' (fun a'' w''=>IZ ops q S (Os q) al N a w.drew (listed.setIfInBounds i true) a'' w''∨IK ops q jss K S.dom N w.drew (listed.setIfInBounds i true) a'' w'') Q:=by
  intro listed a' w' i o T V g J m;obtain⟨k,O',S',hk1,hk2,hsz,hl,hfr,hL,hdef,hts,hrs,htm,hG⟩:=T.ex;have hio:i<ops.size:=(fO.1 g).1;have hils:i<listed.size:=om
  have s:∀j d,(listed.setIfInBounds i true).getD j d=if j=i then true else listed.getD j d:=fun j d=>mq _ _ _ _ hils
  let Om:Tm:=fun t=>if uW ops q listed t then .any else O' t
  have hRm:RT Om S' N a' w':=⟨hdef,hts,fun t=>by
   simp only[Om];split
   .simp[bs]
   .rename_i hc;exact htm t hc,hrs⟩
  have hlk:∀x,x∈o.op.operands.toList->ev O' x=ev Om x:=tW fun t I=>by
   simp only[Om];rw[af];rintro⟨j,oj,F,hfj⟩;have:listed.getD j false=true:=by
    rcases aC i q with c|c
    .exact m j (D.reads i o j oj t c hfj.lt g hfj.op hfj.dst I).2
    .exact m j ((hfj.tail i o c g).2 I)
   rw[oA this]at F;cases F
  have late:∀t,¬uW ops q (listed.setIfInBounds i true) t->o.dst≠some t->¬uW ops q listed t:=by
   rintro t I e ⟨j,oj,F,hfj⟩;refine I ⟨j,oj,?_,hfj⟩;rw[s,af]
   .exact F
   .rintro rfl;have hoj:=hfj.op;rw[g]at hoj;cases hoj;exact e hfj.dst
  rcases aC i q with c|c
  ·
   obtain⟨o',d,R,hok'⟩:=hfr i c J;have ho':=R.op;rw[g]at ho';cases ho';have E:=R.dst;refine CW (rZ hlk hok') hRm (fun v w'' hv hg=>bH ⟨k,O',S',hk1,hk2,by simp[hsz],fun j U r=>?_,fun j U r=>?_,hL,by rw[sT];exact hdef,by rw[zP];exact hts,hrs.frozen hg,fun t I=>?_,hG.trans (hg.any _)⟩)
   .rw[s,af om];exact hl j U r
   .rw[s]at r;by_cases e:j=i
    .rw[ai e]at r;cases r
    .rw[af e]at r;exact hfr j U r
   .by_cases e:o.dst=some t
    .have Z:=e;rw[E]at Z;cases Z;rw[e,put_eq (by rw[hts];exact Am hd g E)];exact hv
    .rw[vV e];exact bs.grow hrs.noU (hg.any _) _ _ (htm t (late t I e))
  .have hik:i=k:=by
    rcases dY i k with l|l|l
    .rw[(hl i c hio).2 l]at J;cases J
    .exact l
    .rcases D.tail i o c g k l with n|⟨_,p,d,n⟩
     .have:=(hl k om om).1 (oA (came _ i k o V g m n));omega
     .have:=n.lt;omega
   subst hik;have hdrop:ops.toList.drop i=o::ops.toList.drop (i+1):=by
    have l:ops.toList[i]? = some o:=by simpa using g
    rw[rY (by simpa using hio)]
    congr 1;exact(er.1 l).2
   rw[hdrop]at hL;have nxt:∀z v w'' S'',(∀j,j∈DI (Id jss (i-q))->∃p d,ops.toList[j]? = some p/\p.dst=some d/\BM p (O'.put o.dst z) S'' (O'.put o.dst z d))->tlX ops (Id jss (i-q+1)) (ops.toList.drop (i+1)) (O'.put o.dst z) S'' K->bs w'' S''.dom z v->eM w'' S''->dz S'.dom S''.dom w' w'' ->
     IZ ops q S (Os q) al N a w.drew (listed.setIfInBounds i true) (a'.put o.dst v) w''∨IK ops q jss K S.dom N w.drew (listed.setIfInBounds i true) (a'.put o.dst v) w'':=by
    intro z v w'' S'' hlate hz hv hs hg;refine bH ⟨i+1,O'.put o.dst z,S'',om,om,by simp[hsz],fun j U r=>?_,fun j U r=>?_,by rw[(om:i+1-q=(i-q)+1)];exact hz,by rw[sT];exact hdef,by rw[zP];exact hts,hs,fun t I=>?_,hG.trans hg⟩
    .rw[s];by_cases e:j=i
     .rw[ai e];simp;omega
     .rw[af e,hl j U r];omega
    .rw[s,af om]at r;obtain⟨p,d,R,hp⟩:=hfr j U r;refine⟨p,d,R,?_⟩;have L:ops.toList[j]? = some p:=by simpa using R.op
     rcases D.tail i o c g j om with l|⟨l|⟨_,hm⟩,_⟩
     .rw[oA (came _ i j o V g m l)]at r;cases r
     .obtain⟨p',d',l,n,G⟩:=hlate j l;rw[L]at l;cases l;rw[R.dst]at n;cases n;exact G
     .have hta:=(R.tail i o c g).1;rw[tR (fun e=>(hta d e).2 rfl)];exact rZ (tW fun t I=>(tR (fun e=>(hta t e).1 I)).symm) (TT L hm hp)
    .by_cases e:o.dst=some t
     .rw[e,put_eq (by rw[hts];exact Am hd g e),MT];exact hv
     .rw[vV e,tR e];exact bs.grow hrs.noU hg _ _ (htm t (late t I e))
   rcases hL with⟨A,hL⟩|hL
   .unfold Gc at hL;rw[D.guard i o g]at hL;exact pC (wE hlk hL) hRm (fun z v w'' S'' hz hv hs hg=>nxt z v w'' S'' (by rw[A];intro j h;cases h) (bF ⟨by simp only[Id];rw[A];rfl,hz⟩) hv hs hg)
   .unfold QH at hL;exact pC (wE hlk hL) hRm (fun z v w'' S'' hz hv hs hg=>nxt z v w'' S'' (sY hz.1) (bH hz.2) hv hs hg)
 have headStep:∀listed a' w' i o,IZ ops q S (Os q) al N a w.drew listed a' w'->wV ops listed->ops[i]? = some o->listed.getD i true=false->(∀k∈aft o,listed.getD k false=true)->o.wp ah a' w' (fun a'' w''=>IZ ops q S (Os q) al N a w.drew (listed.setIfInBounds i true) a'' w''∨IK ops q jss K S.dom N w.drew (listed.setIfInBounds i true) a'' w'') Q:=by
  intro listed a' w' i o H V g J m;have hio:i<ops.size:=(fO.1 g).1;have hils:i<listed.size:=by rw[H.size];exact hio
  rcases aC i q with c|c
  .have s:∀j d,(listed.setIfInBounds i true).getD j d=if j=i then true else listed.getD j d:=fun j d=>mq _ _ _ _ hils
   have hS:eM w' S:=w0s.frozen H.gr;have mk:∀(v:Value) (w'':World),dz BJ BJ w' w''->(∀d,o.dst=some d->bs w'' S.dom (Os q d) v) ->
     (∃B:Nat->Nat,(∀(j:Nat) (p:Oper) (X:eS) (d:Nat),j<q->ops[j]? = some p->al j=some X->p.dst=some d->(listed.setIfInBounds i true).getD j false=true ->
       (a'.put o.dst v).tmps.getD d undef=.pointer (some ⟨B j,0,ab⟩)/\w.drew.heap.size<=B j/\∃zc,w''.heap[B j]? = some (.cells zc X.ty (0,0))/\ZX X zc) /\
      ∀j k,j<q->k<q->(al j).isSome=true->(al k).isSome=true->(listed.setIfInBounds i true).getD j false=true->(listed.setIfInBounds i true).getD k false=true->B j=B k->j=k) ->
     IZ ops q S (Os q) al N a w.drew (listed.setIfInBounds i true) (a'.put o.dst v) w'':=by
    intro v w'' hg hz hB;refine⟨by simp[H.size],fun j U r=>?_,by rw[sT];exact H.defers,by rw[zP];exact H.tsize,H.gr.trans hg,fun t I=>?_,fun t I=>?_,hB⟩
    .rw[s,af om];exact H.tailU j U r
    .by_cases e:o.dst=some t
     .rw[e,put_eq (by rw[H.tsize];exact Am hd g e)]
      exact hz t e
     .rw[vV e];refine bs.grow hS.noU (hg.any _) _ _ (H.tm t (fun j p A hp hpt=>?_));have:=I j p A hp hpt;rw[s]at this;by_cases Z:j=i
      .subst Z;rw[g]at hp;cases hp;exact absurd hpt e
      .rw[af Z]at this;exact this
    .rw[vV (I i o c g)];exact H.old t I
   obtain⟨B,hB1,hB2⟩:=H.news;rcases hi' i o c g with⟨t,d,X,hop,E,hX,hal,hO⟩|⟨hal,z,hz,hO⟩
   .obtain⟨zc,z1,z2,z3⟩:=LD hX;refine it (v:=.pointer (some ⟨w'.heap.size,0,ab⟩)) (w':=w'.alloc (.cells zc t)) (by simp[execOp,hop,z2 w']) (bF ?_)
    have hg:dz BJ BJ w' (w'.alloc (.cells zc t)):=⟨rfl,rfl,rfl,sm,fun k hk _=>UE w' _ k hk,fun k cs ty fr hc=>⟨cs,by rw[UE w' _ k (gA hc)];exact hc,rfl⟩,fun _ _ h=>h⟩
    have hBlt:∀(j:Nat),j<q->(al j).isSome=true->listed.getD j false=true->B j<w'.heap.size:=by
     intro j A hs C;have hjs:j<ops.size:=by have:=D.le;omega
     rcases hi' j ops[j] A (cw hjs)with⟨_,e,Y,_,n,_,L,_⟩|⟨L,_⟩
     .obtain⟨_,_,zc',hz',_⟩:=hB1 j _ Y e A (cw hjs) L n C;exact gA hz'
     .rw[L]at hs;cases hs
    refine mk _ _ hg (fun d' hd'=>?_) ⟨fun j=>if j=i then w'.heap.size else B j,fun j p Y e l n G L C=>?_,fun j k l n G L C h6 h7=>?_⟩
    .rw[E]at hd';cases hd';rw[kept i o d _ c g E hO];simp[bs]
    .by_cases Z:j=i
     .subst Z;rw[g]at n;cases n;rw[E]at L;cases L;rw[hal]at G;cases G;simp only[aQ];refine⟨by rw[E,put_eq (by rw[H.tsize];exact Am hd g E)],H.gr.size,zc,?_,z3⟩
      rw[z1];exact jC w' _
     .simp only[af Z];rw[s,af Z]at C;obtain⟨g1,g2,zc',g3,g4⟩:=hB1 j p Y e l n G L C;refine⟨?_,g2,zc',?_,g4⟩
      .rw[vV]
       .exact g1
       .intro e3;exact Z (D.apart j p i o e l c n g L e3)
      .rw[UE w' _ _ (gA g3)];exact g3
    .rw[s]at C h6;by_cases e1:j=i
     .by_cases Z:k=i
      .rw[e1,Z]
      .simp only[ai e1,af Z]at h7;rw[af Z]at h6;have:=hBlt k n L h6;omega
     .rw[af e1]at C;by_cases Z:k=i
      .simp only[af e1,ai Z]at h7;have:=hBlt j l G C;omega
      .simp only[af e1,af Z]at h7;rw[af Z]at h6;exact hB2 j k l n G L C h6 h7
   .let Oe:Tm:=fun t=>if (∀(j:Nat) (p:Oper),j<q->ops[j]? = some p->p.dst=some t->listed.getD j false=true)then Os q t else .any
    have hRe:RT Oe S N a' w':=⟨H.defers,H.tsize,fun t=>by
     simp only[Oe];split
     .rename_i hc;exact H.tm t hc
     .simp[bs],hS⟩
    have hze:BM o Oe S z:=rZ (tW fun t I=>by
     simp only[Oe];rw[ai (fun j p A hp hpt=>m j (D.reads i o j p t c A g hp hpt I).2),seen i o t c g I]) hz
    have hne:∀j,(al j).isSome=true->j≠i:=fun j h Z=>by subst Z;rw[hal]at h;cases h
    refine CW hze hRe (fun v w'' hv hg=>bF (mk v w'' hg (fun d hdd=>?_) ⟨B,fun j p Y e l n G L C=>?_,fun j k l n G L C h6 h7=>?_⟩))
    .rw[kept i o d z c g hdd (by rw[hO,hdd])];exact hv
    .have hji:=hne j (by rw[G];rfl)
     rw[s,af hji]at C;obtain⟨g1,g2,zc',g3,g4⟩:=hB1 j p Y e l n G L C;refine⟨?_,g2,zc',(hg.keep _ (gA g3) (fun x=>x)).trans g3,g4⟩;rw[vV]
     .exact g1
     .intro e3;exact hji (D.apart j p i o e l c n g L e3)
    .rw[s,af (hne j G)]at C;rw[s,af (hne k L)]at h6;exact hB2 j k l n G L C h6 h7
  .have hi0:i=q:=by
    rcases aC q i with h|h
    .exfalso;rcases D.tail i o c g q h with l|⟨_,p,d,l⟩
     .have n:=oA (came _ i q o V g m l);rw[H.tailU q (ae _) om]at n;cases n
     .have:=l.lt;omega
    .omega
   refine tailStep listed a' w' i o (HT listed a' w' H (fun j A F=>?_)) V g J m;rcases D.tail i o c g j om with l|l
   .rw[oA (came _ i j o V g m l)]at F;cases F
   .rw[hi0,ct]at l;exact l
 refine wp_region_any kr (pN (fun listed a' w'=>wV ops listed/\(IZ ops q S (Os q) al N a w.drew listed a' w'∨IK ops q jss K S.dom N w.drew listed a' w')) ?_ ?_ ops.size _ a w.drew ?_ ⟨fun i o g h=>?_,bF ?_⟩)
 .rintro listed a' w' i ⟨V,hI⟩ hi;obtain⟨o,g,J,m⟩:=mn hi;have hcl':wV ops (listed.setIfInBounds i true):=by
   have hils:i<listed.size:=by
    rcases aC i listed.size with h|h
    .exact h
    .rw[cO,eC h]at J;cases J
   intro j p hp A k hk;rw[mq _ _ _ _ hils]at A ⊢;split
   .rfl
   .split at A
    .rename_i e;subst e;rw[g]at hp;cases hp;exact m k hk
    .exact V j p hp A k hk
  unfold wpOp;simp only[g];rw[ai (by simp[oZ,D.guard i o g])]
  simp only[hcl',kc];rcases hI with H|T
  .exact bF (headStep listed a' w' i o H V g J m)
  .exact bF (tailStep listed a' w' i o T V g J m)
 .rintro listed a' w' ⟨_,hI⟩ hre;have T:IK ops q jss K S.dom N w.drew listed a' w':=by
   rcases hI with H|T
   .refine HT listed a' w' H (fun j A F=>?_);rw[oA (vT D.back H.size hre j (by have:=D.le;omega))]at F;cases F
   .exact T
  obtain⟨k,O',S',hk1,hk2,hsz,hl,hfr,hL,hdef,hts,hrs,htm,hG⟩:=T.ex;have W:=vT D.back hsz hre;have hk:k=ops.size:=by
   rcases aC k ops.size with l|l
   .have:=(hl k hk1 l).1 (oA (W k l));omega
   .omega
  rw[hk,kG sm]at hL
  refine hq O' S' a' w' (hL.elim (fun h=>h.2) (fun h=>by unfold QH at h;exact h)) ⟨hdef,hts,fun t=>htm t ?_,hrs⟩ ((dz.drew S.dom w).trans hG)
  rintro⟨j,y,F,hfj⟩;rw[oA (W j (by have:=hfj.lt;have:=D.le;omega))]at F;cases F
 .simp only[T7];exact bQ TS sm
 .rw[Ck]at h;cases h
 .refine⟨sm,fun i _ hi2=>?_,hr.defers,hr.size,dz.refl _ _,fun t I=>?_,fun _ _=>rfl,fun _=>0,fun i o X d l n G L C=>?_,fun i j l n G L C h6 h7=>?_⟩
  .rw[DO (by simpa using hi2)];exact Ck _ _
  .rw[stable t q 0 om (ae _) (fun j o _ A g hdt=>by
    have:=I j o A g hdt;rw[Ck]at this;cases this),e0]
   exact r0.tm t
  .rw[Ck]at C;cases C
  .rw[Ck]at C;cases C

def CK(ops:Array Oper):Bool:=ops.toList.zipIdx.all (fun p=>(aft p.1).all (fun k=>decide (k<p.2)))
def Ef(ops:Array Oper)(o:Oper)(O:Tm)(S:St)(K:Tm->St->Prop):Prop:=match o.guard with
 | ab=>AI o O S (fun z S'=>K (O.put o.dst z) S')
 | some (j,want)=>(match EE ops O j with
  | .bool b=>(b=want->AI o O S (fun z S'=>K (O.put o.dst z) S'))/\(b=!want->K (O.put o.dst .any) S)
  | _=>False)
def awI(ops:Array Oper)(O:Tm)(S:St)(K:Tm->St->Prop):Prop:=∃P:(Nat->Bool)->Tm->St->Prop,CK ops=true/\P (fun _=>false) O S /\
 (∀(i:Nat) (o:Oper),ops[i]? = some o->∀L O S,P L O S->L i=false->(∀k∈aft o,L k=true)->Ef ops o O S (P (fun k=>if k=i then true else L k))) /\
 (∀L O S,P L O S->(∀i,i<ops.size->L i=true)->K O S)
def Ly(h:awI ops O S K)(q:RT O S N a w)(R:xE N ops.toList=true)
  (T:∀O' S' a' w',K O' S'->RT O' S' N a' w'->dz S.dom S'.dom w w'->Q .normal a' w'):(Code.region id ops true).wp ah Q a w:=by
 obtain⟨P,C,U,hstep,r⟩:=h;have back:∀(j:Nat) (o:Oper),ops[j]? = some o->∀k∈aft o,k<j:=by
  intro j o m k V;have c:=aG.1 C (o,j) (ml (by simpa using m))
  have W:=aG.1 c k V;simpa using W
 have w0s:eM w.drew S:=q.st.drew;have X:RT O S N a w.drew:=⟨q.defers,q.size,fun t=>bs.grow q.st.noU (dz.drew _ w) _ _ (q.tm t),w0s⟩;refine wp_region_any kr (pN (fun listed a' w'=>listed.size=ops.size/\∃O' S',P (fun i=>listed.getD i false) O' S'/\RT O' S' N a' w'/\dz S.dom S'.dom w.drew w') ?_ ?_ ops.size _ a w.drew ?_ ⟨sm,O,S,?_,X,dz.refl _ _⟩)
 .rintro listed a' w' i ⟨g,O',S',D,l,E⟩ F;obtain⟨o,m,G,s⟩:=mn F;have Y:i<ops.size:=(fO.1 m).1;have Z:(fun k=>listed.getD k false) i=false:=(DO om).symm.trans G;have c:=hstep i o m _ O' S' D Z s;have u:(fun k=>(listed.setIfInBounds i true).getD k false)=(fun k=>if k=i then true else listed.getD k false):=by
   funext k;exact mq listed i k false om
  have nxt:∀z v w'' S'',P (fun k=>if k=i then true else listed.getD k false) (O'.put o.dst z) S''->bs w'' S''.dom z v->eM w'' S''->dz S'.dom S''.dom w' w'' ->
    ((listed.setIfInBounds i true).size=ops.size/\∃O1 S1,P (fun i_1=>(listed.setIfInBounds i true).getD i_1 false) O1 S1/\RT O1 S1 N (a'.put o.dst v) w''/\dz S.dom S1.dom w.drew w''):=by
   intro z v w'' S'' x y A n;refine⟨by simp[g],_,S'',?_,l.put n A (fun d H=>Am R m H) y,E.trans n⟩
   rw[u];exact x
  unfold wpOp;simp only[m];unfold Ef at c
  cases f:o.guard with
  | none =>
   rw[f]at c;rw[ai (by simp[oZ,f])]
   exact bF (pC c l (fun z v w'' S'' x y A n=>nxt z v w'' S'' x y A n))
  | some p =>
   obtain⟨j,want⟩:=p;rw[f]at c;simp only at c
   cases M:EE ops O' j<;>rw[M]at c<;>try exact c.elim
   rename_i b;have B:=BT l M;by_cases I:b=want
   .rw[ai (by simp[oZ,f,B,I])]
    exact bF (pC (c.1 I) l (fun z v w'' S'' x y A n=>nxt z v w'' S'' x y A n))
   .rw[af (by simp[oZ,f,B,I])]
    have J:b=!want:=by cases b<;>cases want<;>simp_all
    exact nxt .any undef w' S' (c.2 J) (by simp[bs]) l.st (dz.refl _ _)
 .rintro listed a' w' ⟨g,O',S',D,l,E⟩ L;exact T O' S' a' w' (r _ O' S' D (fun i F=>vT back g L i F)) l ((dz.drew S.dom w).trans E)
 .simp only[T7];exact bQ TS sm
 .have e:(fun i=>(kX ops.size false).getD i false)=fun _=>false:=by funext i;exact Ck _ _
  show P (fun i=>(kX ops.size false).getD i false) O S;rw[e];exact U

inductive AX where
 | normal
 | ret
 | exit (id:Nat)
def AX.seq(k:Tm->St->Prop)(Q:AX->Tm->St->Prop):AX->Tm->St->Prop
 | .normal=>k
 | .ret=>Q .ret
 | .exit i=>Q (.exit i)
def AX.blk(id:Nat)(Q:AX->Tm->St->Prop):AX->Tm->St->Prop
 | .normal=>Q .normal
 | .ret=>Q .ret
 | .exit i=>if i=id then Q .normal else Q (.exit i)
def QK(ops:Array Oper)(O:Tm)(S:St)(K:Tm->St->Prop):Prop:=awX ops O S K∨awI ops O S K
def aw:Code->(AX->Tm->St->Prop)->Tm->St->Prop
 | .skip,Q,O,S=>Q .normal O S
 | .region _ ops false,Q,O,S=>Gc ops ops.toList O S (Q .normal)
 | .region _ ops true,Q,O,S=>QK ops O S (Q .normal)
 | .seq x y,Q,O,S=>aw x (AX.seq (aw y Q) Q) O S
 | .cond c x y,Q,O,S=>(match ev O c with
  | .bool b=>(b=true->aw x Q O S)/\(b=false->aw y Q O S)
  | _=>False)
 | .block id c,Q,O,S=>aw c (AX.blk id Q) O S
 | .loop c,Q,O,S=>∃(I:Tm->St->Prop) (μ:Tm->St->Nat),I O S/\∀O S,I O S->aw c (AX.seq (fun O' S'=>I O' S'/\μ O' S' < μ O S) Q) O S
 | .exit id,Q,O,S=>Q (.exit id) O S
 | .ret,Q,O,S=>Q .ret O S
 | .scope c,Q,O,S=>aw c Q O S
 | .label _,Q,O,S=>Q .normal O S
 | _,_,_,_=>False
def jm(N:Nat):Code->Bool
 | .skip=>true
 | .region _ ops _=>xE N ops.toList
 | .seq x y=>jm N x&&jm N y
 | .cond _ x y=>jm N x&&jm N y
 | .block _ c=>jm N c
 | .loop c=>jm N c
 | .exit _=>true
 | .ret=>true
 | .scope c=>jm N c
 | .label _=>true
 | _=>false
def Post(Q:AX->Tm->St->Prop)(D:Nat->Prop)(N:Nat)(w0:World):Exit->Act->World->Prop
 | .normal,a,w=>∃O S,Q .normal O S/\RT O S N a w/\dz D S.dom w0 w
 | .ret,a,w=>∃O S,Q .ret O S/\RT O S N a w/\dz D S.dom w0 w
 | .exit i,a,w=>∃O S,Q (.exit i) O S/\RT O S N a w/\dz D S.dom w0 w
 | _,_,_=>False
theorem mJ{N:Nat}:∀(c:Code) (Q:AX->Tm->St->Prop) (O:Tm) (S:St) (D:Nat->Prop) (j:World) (a:Act) (w:World),aw c Q O S->jm N c=true->RT O S N a w->dz D S.dom j w->c.wp ah (Post Q D N j) a w
 | .skip,Q,O,S,D,j,a,w,h,_,f,g=>wp_skip ⟨O,S,h,f,g⟩
 | .region id ops false,Q,O,S,D,j,a,w,h,k,f,g=>by
  refine wp_region_list (wB ops.toList h f k (fun O' S' a' w' m o p=>⟨O',S',m,o,g.trans p⟩))
 | .region id ops true,Q,O,S,D,j,a,w,h,k,f,g =>
  h.elim (fun h=>Lw h f k (fun O' S' a' w' m o p=>⟨O',S',m,o,g.trans p⟩)) (fun h=>Ly h f k (fun O' S' a' w' m o p=>⟨O',S',m,o,g.trans p⟩))
 | .seq x y,Q,O,S,D,j,a,w,h,k,f,g=>by
  simp only[jm,au]at k;simp only[aw]at h;refine wp_seq (yn ?_ (mJ x _ O S D j a w h k.1 f g));intro e a' w' d
  cases e with
  | normal=>obtain⟨O',S',m,o,p⟩:=d;exact mJ y Q O' S' D j a' w' m k.2 o p
  | ret=>exact d
  | exit i=>exact d
  | goto l=>exact d.elim
  | panic ch=>exact d.elim
  | outgrown=>exact d.elim
 | .cond c x y,Q,O,S,D,j,a,w,h,k,f,g=>by
  simp only[jm,au]at k;simp only[aw]at h;have q:=f.ev c
  cases r:ev O c<;>rw[r]at h q<;>try exact h.elim
  rename_i b;simp only[bs]at q
  cases b
  .exact wp_cond_false q (mJ y Q O S D j a w (h.2 rfl) k.2 f g)
  .exact wp_cond_true q (mJ x Q O S D j a w (h.1 rfl) k.1 f g)
 | .block id c,Q,O,S,D,j,a,w,h,k,f,g=>by
  simp only[jm]at k;simp only[aw]at h;refine wp_block (yn ?_ (mJ c _ O S D j a w h k f g));intro e a' w' d
  cases e with
  | normal=>exact d
  | ret=>exact d
  | exit i =>
   obtain⟨O',S',m,o,p⟩:=d;simp only[AX.blk]at m;simp only[Exit.inBlock];split at m
   .rename_i e;subst e;simp;exact⟨O',S',m,o,p⟩
   .rename_i e;simp[e];exact⟨O',S',m,o,p⟩
  | goto l=>exact d.elim
  | panic ch=>exact d.elim
  | outgrown=>exact d.elim
 | .loop c,Q,O,S,D,j,a,w,h,k,f,g=>by
  simp only[jm]at k;simp only[aw]at h;obtain⟨I,μ,s,hround⟩:=h;have key:∀n O S a w,μ O S<n->I O S->RT O S N a w->dz D S.dom j w->Code.rounds ah c (Post Q D N j) n a w:=by
   intro n
   induction n with
   | zero=>intro O S a w m;omega
   | succ n ih =>
    intro O S a w m o p t;refine yn ?_ (mJ c _ O S D j a w (hround O S o) k p t);intro e a' w' d
    cases e with
    | normal =>
     obtain⟨O',S',⟨u,A⟩,v,z⟩:=d;exact ih O' S' a' w' om u v z
    | ret=>exact d
    | exit i=>exact d
    | goto l=>exact d.elim
    | panic ch=>exact d.elim
    | outgrown=>exact d.elim
  exact wp_loop_rounds (μ O S+1) (key _ O S a w om s f g)
 | .exit id,Q,O,S,D,j,a,w,h,_,f,g=>wp_exit ⟨O,S,h,f,g⟩
 | .ret,Q,O,S,D,j,a,w,h,_,f,g=>wp_ret ⟨O,S,h,f,g⟩
 | .rangeFunc ..,_,_,_,_,_,_,_,h,_,_,_=>h.elim
 | .scope c,Q,O,S,D,j,a,w,h,k,f,g=>by
  simp only[jm]at k;simp only[aw]at h;refine wp_scope_straight (yn ?_ (mJ c Q O S D j a w h k f g));intro e a' w' d
  cases e with
  | normal=>exact d
  | ret=>exact d
  | exit i=>exact d
  | goto l=>exact d.elim
  | panic ch=>exact d.elim
  | outgrown=>exact d.elim
 | .label _,Q,O,S,D,j,a,w,h,_,f,g=>wp_label ⟨O,S,h,f,g⟩
 | .goto _,_,_,_,_,_,_,_,h,_,_,_=>h.elim
 | .refuse _,_,_,_,_,_,_,_,h,_,_,_=>h.elim
def yi:List ResultVar->Tm->St->(List AV->Prop)->Prop
 | [],_,_,K=>K []
 | .tmp t::r,O,S,K=>yi r O S (fun l=>K (O t::l))
 | .cell p ty::r,O,S,K=>pD ty (O p) S (fun z=>yi r O S (fun l=>K (z::l)))
def qZ:List AV->AV
 | [x]=>x
 | l=>.tup l
theorem Do{N:Nat}{O:Tm}{S:St}{a:Act}{w:World}(e:RT O S N a w):∀(rs:List ResultVar) (K:List AV->Prop),yi rs O S K ->
  ∃l vs,K l/\aT w S.dom l vs/\vs.length=rs.length/\(rs.mapM (m:=Sem) fun
   | .tmp t=>pure (a.tmps.getD t undef)
   | .cell p t=>do loadVar t (<-asAddr (a.tmps.getD p undef))).run ah w=.ok vs w
 | [],K,h=>⟨[],[],h,by simp[aT],rfl,sm⟩
 | .tmp t::r,K,h=>by
  obtain⟨l,vs,g,i,j,k⟩:=Do e r _ h;exact⟨O t::l,a.tmps.getD t undef::vs,g,by simp only[aT];exact⟨e.tm t,i⟩,by simp[j],by simp only[Vm,jZ,IM,ip,k]⟩
 | .cell p ty::r,K,h=>by
  obtain⟨z,v,o,q,d⟩:=rE h e.st (e.tm p);obtain⟨l,vs,g,i,j,k⟩:=Do e r _ o;have f:∃ad,a.tmps.getD p undef=.pointer (some ad):=by
   have c:=e.tm p;simp only[yi]at h
   cases n:O p<;>rw[n]at h c<;>simp only[pD]at h
   .simp only[bs]at c;exact⟨_,c⟩
   .simp only[bs]at c;obtain⟨b,off,u,c,_⟩:=c;exact⟨_,c⟩
   .simp only[bs]at c;exact⟨_,c⟩
  obtain⟨ad,f⟩:=f;rw[f]at d;have s:(loadVar ty ad).run ah w=.ok v w:=by simpa [Instr.loadAt,Instr.sureAddr]using d
  have haddr:(asAddr (.pointer (some ad))).run ah w=.ok ad w:=by simp[asAddr]
  exact⟨z::l,v::vs,g,by simp only[aT];exact⟨q,i⟩,by simp[j],by simp only[Vm,jZ,IM,ip,f,haddr,s,k]⟩
def Ky(args:List AV):Tm:=fun t=>args.getD t .any
def O6:∀(args:List AV) (vs:List Value) (k:Nat),aT w M args vs->∀t,bs w M (Ky args t) ((vs.toArray++kX k undef).getD t undef):=by
 intro args vs k h t;have f:∀(j:Nat),(kX k undef).getD j undef=undef:=fun j=>by
  rw[cO,OS];split<;>rfl
 rcases aC t args.length with a|a
 .have b:args[t]? = some (args[t]):=a8 a;obtain⟨v,c,d⟩:=uP args vs h t _ b;have e:t<vs.length:=(er.1 c).1;have:(vs.toArray++kX k undef).getD t undef=v:=by
   rw[cO,eR (by simpa using e)]
   simp[c]
  rw[this];simp only[Ky,cT,b,fW];exact d
 .have:Ky args t=.any:=by simp[Ky,cT,cH a]
  rw[this];simp[bs]
theorem AT{w:World}{M:Nat->Prop}:∀(l:List AV) (vs:List Value),aT w M l vs->vs.length=l.length
 | [],[],_=>rfl
 | _::l,_::vs,h=>by simp only[aT]at h;simp[AT l vs h.2]
 | [],_::_,h=>by simp[aT]at h
 | _::_,[],h=>by simp[aT]at h
def Eg(rs:List ResultVar)(post:AV->St->Prop):AX->Tm->St->Prop
 | .normal,O,S=>yi rs O S (fun l=>post (qZ l) S)
 | .ret,O,S=>yi rs O S (fun l=>post (qZ l) S)
 | .exit _,_,_=>False
def oN{fn:Func}(s:ah.funcs[f]? = some fn)(z:fn.body=some c){args:List AV}{S:St}{post:AV->St->Prop}(N:Nat)(E:fn.ntmps=N)(k:jm N c=true)(o:args.length<=N)
  (h:aw c (Eg fn.results.toList post) (Ky args) S):cP f args S post:=by
 intro w vs A p;refine calls_of_wp s z ?_;have B:=AT _ _ p;have m:RT (Ky args) S N { tmps:=vs.toArray++kX (fn.ntmps-vs.toArray.size) undef,defers:=[] } w:=by
  refine⟨rfl,?_,fun t=>O6 args vs _ p t,A⟩;simp;omega
 refine yn ?_ (mJ c _ _ S S.dom w _ w h k m (dz.refl _ _));have fin:∀a w',(∃O S',yi fn.results.toList O S' (fun l=>post (qZ l) S')/\RT O S' N a w'/\dz S.dom S'.dom w w')->a.defers=[]/\∃v,(results fn a.tmps).run ah w'=.ok v w'/\∃v' r S',Ending.returned v=.returned v'/\post r S'/\bs w' S'.dom r v'/\eM w' S'/\dz S.dom S'.dom w w':=by
  rintro a w' ⟨O,S',n,j,q⟩;obtain⟨l,us,C,b,F,D⟩:=Do j _ _ n;have g:=AT _ _ b;refine⟨j.defers,if h:us.toArray.size=1 then us.toArray[0]else .tuple us.toArray,?_,_,_,S',rfl,C,?_,j.st,q⟩
  .simp only[results];rw[Array.mapM_eq_mapM_toList];simp only[jZ,Sem.run_map,IM];exact(jL (fun r:Result (List Value)=>((r.andThen fun a w'=>Result.ok a.toArray w').andThen fun a w'=>Result.ok (if h:a.size=1 then a[0]else Value.tuple a) w')) D).trans rfl
  .match l,us,b,g with
   | [x],[u],b,_=>simp only[aT]at b;simpa [qZ]using b.1
   | [],[],b,g =>
    simp only[qZ,bs];exact⟨[],sm,by simp[aT]⟩
   | x::y::l,u::u'::us,b,_ =>
    simp only[qZ,bs];exact⟨u::u'::us,sm,b⟩
 intro e a w' d
 cases e with
 | normal=>exact fin a w' d
 | ret=>exact fin a w' d
 | exit i=>obtain⟨O,S',n,j,q⟩:=d;exact n.elim
 | goto l=>exact d.elim
 | panic ch=>exact d.elim
 | outgrown=>exact d.elim
def Dl{fn:Func}(d:ah.funcs[f]? = some fn)(e:fn.body=some c){args:List AV}{S:St}{post:AV->St->Prop}(N:Nat)(g:fn.ntmps=N)(b:jm N c=true)(a:args.length<=N)(_hne:fn.results.size≠0)
  (h:aw c (Eg fn.results.toList post) (Ky args) S):cP f args S post:=oN d e N g b a h

end Go.Proofs.YtdobfmlmenaajaaGreatDoor
