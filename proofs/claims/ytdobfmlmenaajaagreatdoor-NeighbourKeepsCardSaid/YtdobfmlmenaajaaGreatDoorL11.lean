/-
  Lemmas for NeighbourKeeps.
-/
import Derived.Test.YtdobfmlmenaajaaGreatDoorL10
namespace Go.Proofs.YtdobfmlmenaajaaGreatDoor
open Go.RowKit Tryz
open _root_.Array renaming getElem?_eq_getElem→aC,getD_eq_getD_getElem?→aD,getElem?_eq_some_iff→ci,getElem?_setIfInBounds_ne→ct,replicate→jd,getElem?_setIfInBounds→pn
open Below renaming heap_alloc→nU
open _root_.Bool renaming and_eq_true→bL,false_eq_true→bQ,or_eq_true→fL,not_eq_true'→io
open _root_.List renaming all_eq_true→ap,mem_of_getElem?→cR,getElem?_eq_some_iff→dj,range→dY,length_take→eI,getElem?_take→eW,mem_map→fK,drop_of_length_le→gF,mem_filterMap→iO,drop_eq_getElem_cons→iY,nil_append→mc,countP_le_length→nv
open _root_.Nat renaming le_refl→af,lt_or_ge→az,sub_self→bH,le_trans→bI,lt_trichotomy→da
open _root_.Ne renaming symm→ai
open _root_.Option renaming none→ae
open _root_.Or renaming inr→aK,inl→bn
open Region renaming ready→cQ,wanted→eH
open Tryz renaming prog→ah
set_option maxHeartbeats 6400000
set_option maxRecDepth 4096
set_option linter.all false
variable{x:AV}{a:Act}{listed:Array Bool}{ops:Array Oper}{Q:Exit->Act->World->Prop}{jss:List (List Nat)}{N id k q:Nat}{S:St}{O:Tm}{K:Tm->St->Prop}{w:World}
structure mq(ops:Array Oper)(q:Nat)(S:St)(O1:Tm)(N:Nat)(w0:World)(listed:Array Bool)(a:Act)(w:World):Prop where
 size:listed.size=ops.size
 tailU:∀i,q<=i->i<ops.size->listed.getD i true=false
 defers:a.defers=[]
 tsize:a.tmps.size=N
 gr:cG qu qu w0 w
 tm:∀t,(∀(j:Nat) (o:Oper),j<q->ops[j]? = some o->o.dst=some t->listed.getD j false=true)->bB w S.dom (O1 t) (a.tmps.getD t undef)
def M6(ops:Array Oper)(q:Nat)(listed:Array Bool)(t:Nat):Prop:=∃j x,listed.getD j true=false/\BK ops q j x t
structure te(ops:Array Oper)(q:Nat)(K:Tm->St->Prop)(D:Nat->Prop)(N:Nat)(w0:World)(listed:Array Bool)(a:Act)(w:World):Prop where
 ex:∃k O S,q<=k/\k<=ops.size/\listed.size=ops.size/\(∀i,q<=i->i<ops.size->(listed.getD i true=true↔i<k)) /\
  (∀j,j<q->listed.getD j true=false->∃x d,BK ops q j x d/\O d=ev O x)/\Bp ops (ops.toList.drop k) O S K /\
  a.defers=[]/\a.tmps.size=N/\dX w S/\(∀t,¬M6 ops q listed t->bB w S.dom (O t) (a.tmps.getD t undef))/\cG D S.dom w0 w
theorem fA(h:listed.getD k false=true):listed.getD k true=true:=by
 rw[aD]at h ⊢
 cases a:listed[k]? with
 | none=>rw[a]at h;cases h
 | some b=>rw[a]at h;exact h
theorem vO:O.put ae x=O:=by rw[Tm.put_eq]
theorem ob{d t:Nat}(h:t≠d):O.put (some d) x t=O t:=by simp[Tm.put_eq,h]
theorem Gv(h:awF ops O S K)(hr:RT O S N a w)(hd:ri N ops.toList=true)
  (hq:∀O' S' a' w',K O' S'->RT O' S' N a' w'->cG S.dom S'.dom w w'->Q .normal a' w'):(Code.region id ops true).wp ah Q a w:=by
 classical
 obtain⟨q,hok,hH⟩:=h;have D:=D6 hok;have hlen:(ops.toList.take q).length=q:=by rw[eI];have:=D.le;simp;omega
 obtain⟨Os,al,e0,hK,hi⟩:=oA _ _ _ _ _ hH;rw[hlen]at hK;obtain⟨hpe,hK⟩:=hK;have hi':∀(i:Nat) (o:Oper),i<q->ops[i]? = some o->∃z,yA o (Os i) S z/\Os (i+1)=(Os i).put o.dst z:=by
  intro i o n c;have F:(ops.toList.take q)[i]? = some o:=by rw[eW,if_pos n];simpa using c
  rcases hi i o F with⟨t,d,X,E,h2,h3,h4,h5⟩|⟨_,h5⟩
  ·exfalso;have:(d,X)∈([]:List (Nat×dH))++(dY q).filterMap (fun i=>(al i).bind fun X=>((ops.toList.take q)[i]?).bind fun o=>o.dst.map fun d=>(d,X)):=by
    rw[mc,iO];exact⟨i,by simpa using n,by rw[h4,F];simp[h2]⟩
   rw[List.isEmpty_iff.1 hpe]at this
   cases this
  ·exact h5
 have step_ne:∀i o t,i<q->ops[i]? = some o->o.dst≠some t->Os (i+1) t=Os i t:=by
  intro i o t n c P;obtain⟨z,_,h5⟩:=hi' i o n c;rw[h5]
  cases hdo:o.dst with
  | none=>rw[Tm.put_eq]
  | some d=>simp only[Tm.put_eq];rw[if_neg];intro e;exact P (by rw[hdo,e])
 have stable:∀t k i,i<=k->k<=q->(∀j o,i<=j->j<k->ops[j]? = some o->o.dst≠some t)->Os k t=Os i t:=by
  intro t k
  induction k with
  | zero=>intro i E _ _;rw[(om:i=0)]
  | succ k ih =>
   intro i E h2 h3;by_cases e:i=k+1
   ·rw[e]
   ·have Y:k<ops.size:=by have:=D.le;omega
    rw[step_ne k ops[k] t om (aC Y) (h3 k _ om om (aC Y))];exact ih i om om (fun j o u b c=>h3 j o u om c)
 have w0s:dX w.drew S:=hr.st.drew;have r0:RT O S N a w.drew:=⟨hr.defers,hr.size,fun t=>bB.grow hr.st.noU (cG.drew _ w) _ _ (hr.tm t),w0s⟩;have dstN:∀(i:Nat) (o:Oper) (d:Nat),ops[i]? = some o->o.dst=some d->d<N:=by
  intro i o d c hdd;have:=ap.1 hd o (cR (by simpa using c:ops.toList[i]? = some o))
  rw[hdd]at this;simpa using this
 have HT:∀listed a' w',mq ops q S (Os q) N w.drew listed a' w'->(∀j,j<q->listed.getD j true=false->∃x d,BK ops q j x d)->te ops q K S.dom N w.drew listed a' w':=by
  intro listed a' w' H G;refine⟨q,Os q,S,af _,D.le,H.size,fun i hi1 R=>?_,fun j C l=>?_,hK,H.defers,H.tsize,w0s.frozen H.gr,fun t P=>?_,H.gr.any _⟩
  ·rw[H.tailU i hi1 R];constructor
   ·intro h;cases h
   ·intro h;omega
  ·obtain⟨x,d,hf⟩:=G j C l;refine⟨x,d,hf,?_⟩;obtain⟨o,c,V,s⟩:=hf.op;obtain⟨z,Z,hO⟩:=hi' j o C c;have e1:Os q d=z:=by
    rw[stable d q (j+1) om (af _) (fun i p hi1 R I hpd=>by
     have:=D.apart j o i p d C R c I s hpd;omega),hO,s]
    simp[Tm.put_eq]
   have e2:ev (Os j) x=z:=by
    rcases Z with⟨_,Z⟩|Z
    ·unfold Bw at Z;rw[V]at Z;exact Z.1
    ·rw[V]at Z;exact Z.elim
   rw[e1,<-e2]
   cases x with
   | tmp t =>
    show Os j t=Os q t;rw[stable t q j om (af _) (fun i p hi1 R I J=>by
     have:=(D.reads j o i p t C R c I J (by simp only[kG,V,Op.operands,iO];exact⟨.tmp t,sm,rfl⟩)).1
     omega)]
   | const v=>rfl
   | global g=>rfl
   | func f=>rfl
  ·refine H.tm t (fun j o C c hot=>?_)
   cases hv:listed.getD j false with
   | true=>rfl
   | false =>
    have b:listed.getD j true=false:=by
     have hjs:j<listed.size:=by rw[H.size];exact(ci.1 c).1
     rw[aD,aC hjs]at hv ⊢;exact hv
    obtain⟨x,d,hf⟩:=G j C b;obtain⟨o',F,_,s⟩:=hf.op;rw[c]at F;cases F;rw[hot]at s;cases s;exact absurd ⟨j,x,b,hf⟩ P
 have tailStep:∀listed a' w' i,te ops q K S.dom N w.drew listed a' w'->gM ops listed->i∈cQ .any ops listed->wpOp ah ops Q i (fun a'' w''=>mq ops q S (Os q) N w.drew (listed.setIfInBounds i true) a'' w''∨te ops q K S.dom N w.drew (listed.setIfInBounds i true) a'' w'') a' w':=by
  intro listed a' w' i T L hi;obtain⟨k,O',S',hk1,hk2,hsz,hl,hfr,hL,M,U,hrs,W,hG⟩:=T.ex;obtain⟨o,c,hun,r⟩:=dG hi;have hio:i<ops.size:=(ci.1 c).1;have A:i<listed.size:=om
  unfold wpOp;simp only[c];rw[if_pos (by simp[eH,D.guard i o c])]
  refine bn ?_;rcases az i q with n|n
  ·
   obtain⟨x,d,hf,hOd⟩:=hfr i n hun;obtain⟨o',F,V,s⟩:=hf.op;rw[c]at F;cases F;have hxr:bB w' S'.dom (ev O' x) (a'.eval x):=by
    cases x with
    | tmp t =>
     refine W t ?_;rintro⟨j,y,l,B⟩;obtain⟨oj,hoj,_,hdj⟩:=B.op;have:=r j (D.reads i o j oj t n B.lt c hoj hdj (by simp only[kG,V,Op.operands,iO];exact⟨.tmp t,sm,rfl⟩)).2
     rw[fA this]at l;cases l
    | const v=>exact Fi _ _ v
    | global g=>simp only[ev,bB,Nat.mul_zero];rfl
    | func f=>simp only[ev,bB];exact⟨[],rfl,by simp[a6]⟩
   refine fJ (v:=a'.eval x) (by simp[execOp,V]) (aK ⟨k,O',S',hk1,hk2,by simp[hsz],fun j u b=>?_,fun j u b=>?_,hL,by rw[iD];exact M,by rw[jY];exact U,hrs,fun t P=>?_,hG⟩)
   ·rw[cu _ _ _ _ A,if_neg om];exact hl j u b
   ·rw[cu _ _ _ _ A]at b;by_cases e:j=i
    ·rw[if_pos e]at b;cases b
    ·rw[if_neg e]at b;exact hfr j u b
   ·rw[s];by_cases e:t=d
    ·subst e;rw[put_eq (by rw[U];exact dstN i o t c s),hOd];exact hxr
    ·rw[jS (by intro e2;cases e2;exact e rfl)]
     refine W t ?_;rintro⟨j,y,l,B⟩;refine P ⟨j,y,?_,B⟩;rw[cu _ _ _ _ A,if_neg]
     ·exact l
     ·rintro rfl;obtain⟨oj,hoj,_,hdj⟩:=B.op;rw[c]at hoj;cases hoj;rw[s]at hdj;cases hdj;exact e rfl
  ·have hik:i=k:=by
    rcases da i k with E|E|E
    ·rw[(hl i n hio).2 E]at hun;cases hun
    ·exact E
    ·rcases D.tail i o n c k E with h2|⟨x,d,h2⟩
     ·have hk3:listed.getD k false=true:=h2.elim (r k) (fm L 12 k i o c r);have:=(hl k om om).1 (fA hk3);omega
     ·have:=h2.lt;omega
   subst hik;have hdrop:ops.toList.drop i=o::ops.toList.drop (i+1):=by
    have E:ops.toList[i]? = some o:=by simpa using c
    rw[iY (by simpa using hio)]
    congr 1;exact(dj.1 E).2
   rw[hdrop]at hL;unfold Bp at hL;rw[D.guard i o c]at hL;simp only at hL
   let Om:Tm:=fun t=>if M6 ops q listed t then .any else O' t
   have hRm:RT Om S' N a' w':=⟨M,U,fun t=>by
    simp only[Om];split
    ·simp[bB]
    ·rename_i hc;exact W t hc,hrs⟩
   have hLm:=qV (O':=Om) (j8 fun t P=>by
    simp only[Om];rw[if_neg];rintro⟨j,y,l,B⟩;have:=r j ((B.tail i o n c).2 P);rw[fA this]at l;cases l) hL
   refine lD hLm hRm (fun z v w'' S'' Z hv hs hg=>aK ⟨i+1,O'.put o.dst z,S'',om,om,by simp[hsz],fun j u b=>?_,fun j u b=>?_,Z,by rw[iD];exact M,by rw[jY];exact U,hs,fun t P=>?_,hG.trans hg⟩)
   ·rw[cu _ _ _ _ A];by_cases e:j=i
    ·rw[if_pos e];simp;omega
    ·rw[if_neg e,hl j u b];omega
   ·rw[cu _ _ _ _ A,if_neg om]at b;obtain⟨x,d,hf,hOd⟩:=hfr j u b;refine⟨x,d,hf,?_⟩;have hta:=(hf.tail i o n c).1
    cases hdo:o.dst with
    | none=>rw[vO];exact hOd
    | some e =>
     obtain⟨t1,t2⟩:=hta e hdo;rw[ob (ai t2),hOd]
     cases x with
     | tmp t=>exact(ob (fun e2=>t1 (by rw[e2]))).symm
     | const v=>rfl
     | global g=>rfl
     | func f=>rfl
   ·have hlate:¬M6 ops q listed t:=by
     rintro⟨j,y,l,B⟩;refine P ⟨j,y,?_,B⟩;rw[cu _ _ _ _ A,if_neg]
     ·exact l
     ·have:=B.lt;omega
    by_cases e:o.dst=some t
    ·rw[e,put_eq (by rw[U];exact dstN i o t c e)]
     rw[show(O'.put (some t) z) t=z by simp[Tm.put_eq]];exact hv
    ·rw[jS e];have hold:=bB.grow hrs.noU hg _ _ (W t hlate)
     cases hdo:o.dst with
     | none=>rw[vO];exact hold
     | some e'=>rw[ob (fun e2=>e (by rw[hdo,e2]))];exact hold
 have headStep:∀listed a' w' i,mq ops q S (Os q) N w.drew listed a' w'->gM ops listed->i∈cQ .any ops listed->wpOp ah ops Q i (fun a'' w''=>mq ops q S (Os q) N w.drew (listed.setIfInBounds i true) a'' w''∨te ops q K S.dom N w.drew (listed.setIfInBounds i true) a'' w'') a' w':=by
  intro listed a' w' i H L hi;obtain⟨o,c,hun,r⟩:=dG hi;have hio:i<ops.size:=(ci.1 c).1;have A:i<listed.size:=by rw[H.size];exact hio
  rcases az i q with n|n
  ·have hset:∀j d,(listed.setIfInBounds i true).getD j d=if j=i then true else listed.getD j d:=fun j d=>cu _ _ _ _ A
   have hS:dX w' S:=w0s.frozen H.gr;obtain⟨z,Z,hO⟩:=hi' i o n c
   let Oe:Tm:=fun t=>if (∀(j:Nat) (p:Oper),j<q->ops[j]? = some p->p.dst=some t->listed.getD j false=true)then Os q t else .any
   have hRe:RT Oe S N a' w':=⟨H.defers,H.tsize,fun t=>by
    simp only[Oe];split
    ·rename_i hc;exact H.tm t hc
    ·simp[bB],hS⟩
   have hze:yA o Oe S z:=lG (j8 fun t P=>by
    have hc:∀(j:Nat) (p:Oper),j<q->ops[j]? = some p->p.dst=some t->listed.getD j false=true:=fun j p C I J =>
     r j (D.reads i o j p t n C c I J P).2
    simp only[Oe];rw[if_pos hc,stable t q i om (af _) (fun j p u b I J=>by
     have:=(D.reads i o j p t n b c I J P).1;omega)]) Z
   unfold wpOp;simp only[c];rw[if_pos (by simp[eH,D.guard i o c])]
   refine bn (mI hze hRe (fun v w'' hv hg=>bn ⟨by simp[H.size],fun j u b=>?_,by rw[iD];exact H.defers,by rw[jY];exact H.tsize,H.gr.trans hg,fun t P=>?_⟩))
   ·rw[hset,if_neg om];exact H.tailU j u b
   ·by_cases e:o.dst=some t
    ·rw[e,put_eq (by rw[H.tsize];exact dstN i o t c e)]
     have:Os q t=z:=by
      rw[stable t q (i+1) om (af _) (fun j p u b I hpd=>by
       have:=D.apart i o j p t n b c I e hpd;omega),hO,e]
      simp[Tm.put_eq]
     rw[this];exact hv
    ·rw[jS e];refine bB.grow hS.noU (hg.any _) _ _ (H.tm t (fun j p C I J=>?_));have:=P j p C I J;rw[hset]at this;by_cases e2:j=i
     ·subst e2;rw[c]at I;cases I;exact absurd J e
     ·rw[if_neg e2]at this;exact this
  ·refine tailStep listed a' w' i (HT listed a' w' H (fun j C l=>?_)) L hi;rcases D.tail i o n c j om with E|E
   ·rw[fA (E.elim (r j) (fm L 12 j i o c r))]at l;cases l
   ·exact E
 have first:∀listed,listed.size=ops.size->cQ .any ops listed=[]->∀m,m<=ops.size->∀j,j<m->listed.getD j false=true:=by
  intro listed hsz hre m
  induction m with
  | zero=>intro _ j C;omega
  | succ m ih =>
   intro hm j C;by_cases e:j<m
   ·exact ih om j e
   ·obtain rfl:j=m:=om
    have hjo:j<ops.size:=om
    cases hv:listed.getD j false with
    | true=>rfl
    | false =>
     have b:listed.getD j true=false:=by
      rw[aD,aC om]at hv ⊢;exact hv
     have:j∈cQ .any ops listed:=pJ (aC hjo) b (fun k Y=>ih om k (D.back j _ (aC hjo) k Y));rw[hre]at this;cases this
 refine wp_region_any kr (jK (fun listed a' w'=>gM ops listed/\(mq ops q S (Os q) N w.drew listed a' w'∨te ops q K S.dom N w.drew listed a' w')) ?_ ?_ ops.size _ a w.drew ?_ ⟨fun i o c h=>?_,bn ?_⟩)
 ·intro listed a' w' i hI hi;obtain⟨L,hI⟩:=hI;have hcl':gM ops (listed.setIfInBounds i true):=by
   obtain⟨o,c,hun,r⟩:=dG hi;have hgo:∀k,listed.getD k false=true->(listed.setIfInBounds i true).getD k false=true:=fun k Y=>by
    rw[aD]at Y ⊢;rw[pn];split
    ·split<;>simp_all
    ·exact Y
   intro j p I C k Y;by_cases e:j=i
   ·subst e;rw[c]at I;cases I;exact hgo k (r k Y)
   ·refine hgo k (L j p I ?_ k Y);rw[aD]at C ⊢
    rwa [ct (ai e)]at C
  have e:(fun a'' w''=>gM ops (listed.setIfInBounds i true)/\(mq ops q S (Os q) N w.drew (listed.setIfInBounds i true) a'' w''∨te ops q K S.dom N w.drew (listed.setIfInBounds i true) a'' w''))=fun a'' w''=>(mq ops q S (Os q) N w.drew (listed.setIfInBounds i true) a'' w''∨te ops q K S.dom N w.drew (listed.setIfInBounds i true) a'' w''):=by
   funext a'' w'';simp[hcl']
  show wpOp ah ops Q i (fun a'' w''=>gM ops (listed.setIfInBounds i true)/\(mq ops q S (Os q) N w.drew (listed.setIfInBounds i true) a'' w''∨te ops q K S.dom N w.drew (listed.setIfInBounds i true) a'' w'')) a' w';rw[e];rcases hI with H|T
  ·exact headStep listed a' w' i H L hi
  ·exact tailStep listed a' w' i T L hi
 ·rintro listed a' w' ⟨_,hI⟩ hre;have fin:te ops q K S.dom N w.drew listed a' w'->Q .normal a' w':=by
   intro T;obtain⟨k,O',S',hk1,hk2,hsz,hl,hfr,hL,M,U,hrs,W,hG⟩:=T.ex;have G:=first listed hsz hre ops.size (af _)
   have Y:k=ops.size:=by
    rcases az k ops.size with E|E
    ·have:=(hl k hk1 E).1 (fA (G k E));omega
    ·omega
   rw[Y,gF sm]at hL
   refine hq O' S' a' w' hL ⟨M,U,fun t=>W t ?_,hrs⟩ ((cG.drew S.dom w).trans hG);rintro⟨j,y,l,B⟩;rw[fA (G j (by have:=B.lt;have:=D.le;omega))]at l;cases l
  rcases hI with H|T
  ·refine fin (HT listed a' w' H (fun j C l=>?_));rw[fA (first listed H.size hre ops.size (af _) j (by have:=D.le;omega))]at l;cases l
  ·exact fin T
 ·simp only[JA];exact bI nv sm
 ·rw[n0]at h;cases h
 ·refine⟨sm,fun i _ R=>AC R,hr.defers,hr.size,cG.refl _ _,fun t P=>?_⟩
  have hno:∀(j:Nat) (o:Oper),j<q->ops[j]? = some o->o.dst≠some t:=by
   intro j o C c hdt;have:=P j o C c hdt;rw[n0]at this;cases this
  rw[stable t q 0 om (af _) (fun j o _ C c=>hno j o C c),e0];exact r0.tm t

def Ij(l:List Oper)(q j:Nat):Bool:=decide (j<q)&&(match l[j]? with
 | some o=>Ci o.op&&(match o.dst with
  | some d=>(l.zipIdx.drop q).all (fun p=>(match p.1.dst with
    | some t=>!(kG o).contains t&&decide (t≠d)
    | ae=>true)&&(!(kG p.1).contains d||(py p.1).contains j))
  | _=>false)
 | ae=>false)
def xt:List (List Nat)->List Nat
 | []=>[]
 | js::_=>js
def Ih:List (List Nat)->List (List Nat)
 | []=>[]
 | [js]=>[js]
 | _::r=>r
def F9(jss:List (List Nat)):Nat->List (List Nat)
 | 0=>jss
 | k+1=>Ih (F9 jss k)
def zQ(ops:Array Oper)(q:Nat)(jss:List (List Nat)):Bool :=
 let l:=ops.toList
 l.all (fun o=>o.guard.isNone) &&
 l.zipIdx.all (fun p=>(py p.1).all (fun k=>decide (k<p.2))) &&
 (l.take q).zipIdx.all (fun p=>(l.take q).zipIdx.all (fun r=>match r.1.dst with
  | some t=>!(kG p.1).contains t||(decide (r.2<p.2)&&(py p.1).contains r.2)
  | ae=>true)) &&
 (l.take q).zipIdx.all (fun p=>(l.take q).zipIdx.all (fun r=>decide (p.2=r.2)||p.1.dst.isNone||p.1.dst != r.1.dst)) &&
 (l.zipIdx.drop q).all (fun p=>(dY p.2).all (fun j=>(py p.1).contains j||((xt (F9 jss (p.2-q))).contains j&&Ij l q j)||po ops 12 j p.2)) &&
 decide (q<=l.length)
def lv(ops:List Oper)(O:Tm)(S:St):List Nat->Prop
 | []=>True
 | j::js=>(match ops[j]? with
  | some o=>(match o.dst with
   | some d=>yA o O S (O d)
   | ae=>False)
  | ae=>False)/\lv ops O S js
def G0(ops:List Oper):List (List Nat)->List Oper->Tm->St->(Tm->St->Prop)->Prop
 | _,[],O,S,K=>K O S
 | jss,o::l,O,S,K=>Bw o O S (fun z S'=>lv ops (O.put o.dst z) S' (xt jss)/\G0 ops (Ih jss) l (O.put o.dst z) S' K)
def awG(ops:Array Oper)(O:Tm)(S:St)(K:Tm->St->Prop):Prop:=∃q jss,zQ ops q jss=true /\
 Br (ops.toList.take q) O S [] (fun O' pend=>pend.isEmpty=true/\G0 ops.toList jss (ops.toList.drop q) O' S K)
theorem oX{ops:List Oper}{O:Tm}{S:St}:∀{js:List Nat},lv ops O S js->∀j∈js,∃o d,ops[j]? = some o/\o.dst=some d/\yA o O S (O d)
 | [],_,j,b=>by cases b
 | i::js,h,j,b=>by
  simp only[lv]at h;rcases List.mem_cons.1 b with rfl|b
  ·have a:=h.1
   cases e:ops[j]? with
   | none=>rw[e]at a;exact a.elim
   | some o =>
    rw[e]at a;simp only at a
    cases c:o.dst with
    | none=>rw[c]at a;exact a.elim
    | some d=>rw[c]at a;exact⟨o,d,rfl,c,a⟩
  ·exact oX h.2 j b
structure yn(ops:Array Oper)(q j:Nat)(o:Oper)(d:Nat):Prop where
 lt:j<q
 op:ops[j]? = some o
 dst:o.dst=some d
 pure:Ci o.op=true
 tail:∀(i:Nat) (p:Oper),q<=i->ops[i]? = some p->(∀t,p.dst=some t->t ∉ kG o/\t≠d)/\(d∈kG p->j∈py p)
structure GOK(ops:Array Oper)(q:Nat)(jss:List (List Nat)):Prop where
 guard:∀(i:Nat) (o:Oper),ops[i]? = some o->o.guard=ae
 back:∀(i:Nat) (o:Oper),ops[i]? = some o->∀k∈py o,k<i
 reads:∀(i:Nat) (o:Oper) (j:Nat) (p:Oper) (t:Nat),i<q->j<q->ops[i]? = some o->ops[j]? = some p->p.dst=some t->t∈kG o->j<i/\j∈py o
 apart:∀(i:Nat) (o:Oper) (j:Nat) (p:Oper) (t:Nat),i<q->j<q->ops[i]? = some o->ops[j]? = some p->o.dst=some t->p.dst=some t->i=j
 tail:∀(i:Nat) (o:Oper),q<=i->ops[i]? = some o->∀j,j<i->(j∈py o∨po ops 12 j i=true)∨(j∈xt (F9 jss (i-q))/\∃p d,yn ops q j p d)
 le:q<=ops.size
theorem xH(h:zQ ops q jss=true):GOK ops q jss:=by
 simp only[zQ,bL,decide_eq_true_eq]at h;obtain⟨⟨⟨⟨⟨z,A⟩,B⟩,C⟩,D⟩,E⟩:=h;have gl:∀{i:Nat} {o:Oper},ops[i]? = some o->ops.toList[i]? = some o:=fun h=>by simpa using h
 have tk:∀{i:Nat} {o:Oper},i<q->ops[i]? = some o->(o,i)∈(ops.toList.take q).zipIdx:=fun e b=>iE (by rw[eW,if_pos e];exact gl b)
 have dm:∀{i:Nat} {o:Oper},q<=i->ops[i]? = some o->(o,i)∈ops.toList.zipIdx.drop q:=fun {i o} e b=>by
  rw[List.mem_iff_getElem?];exact⟨i-q,by rw[List.getElem?_drop,(om:q+(i-q)=i),List.getElem?_zipIdx,gl b];simp⟩
 refine⟨fun i o b=>?_,fun i o b k F=>?_,fun i o j p t e l b m n G=>?_,fun i o j p t e l b m n s=>?_,fun i o e b j l=>?_,by simpa using E⟩
 ·have:=ap.1 z o (cR (gl b));simpa using this
 ·have:=ap.1 (ap.1 A (o,i) (iE (gl b))) k F;simpa using this
 ·have:=ap.1 (ap.1 B (o,i) (tk e b)) (p,j) (tk l m);simp only[n]at this;simp only[fL,io,bL,decide_eq_true_eq]at this;rcases this with a|a
  ·simp at a;exact absurd G a
  ·exact⟨a.1,by simpa using a.2⟩
 ·have:=ap.1 (ap.1 C (o,i) (tk e b)) (p,j) (tk l m);simp only[n,s]at this;simpa using this
 ·have:=ap.1 (ap.1 D (o,i) (dm e b)) j (by simpa using l)
  simp only[fL]at this;rcases this with (a|a)|a
  ·exact bn (bn (by simpa using a))
  ·right;rw[bL]at a;obtain⟨u,a⟩:=a;refine⟨by simpa using u,?_⟩
   simp only[Ij,bL,decide_eq_true_eq]at a;obtain⟨v,a⟩:=a
   cases f:ops.toList[j]? with
   | none=>rw[f]at a;cases a
   | some oj =>
    rw[f]at a;simp only[bL]at a;obtain⟨w,a⟩:=a
    cases g:oj.dst with
    | none=>rw[g]at a;cases a
    | some d =>
     rw[g]at a;refine⟨oj,d,v,by simpa using f,g,w,fun i' p x m=>?_⟩
     have y:=ap.1 a (p,i') (dm x m);simp only[bL,fL,io]at y;refine⟨fun t n=>?_,fun H=>?_⟩
     ·have c:=y.1;rw[n]at c;simp only[bL,io,decide_eq_true_eq]at c;refine⟨fun I=>?_,c.2⟩;have r:=c.1;simp at r;exact r I
     ·rcases y.2 with c|c
      ·simp at c;exact absurd H c
      ·simpa using c
  ·exact bn (aK a)
def px(ops:Array Oper)(q:Nat)(listed:Array Bool)(t:Nat):Prop:=∃j o,listed.getD j true=false/\yn ops q j o t
structure lk(ops:Array Oper)(q:Nat)(jss:List (List Nat))(K:Tm->St->Prop)(D:Nat->Prop)(N:Nat)(w0:World)(listed:Array Bool)(a:Act)(w:World):Prop where
 ex:∃k O S,q<=k/\k<=ops.size/\listed.size=ops.size/\(∀i,q<=i->i<ops.size->(listed.getD i true=true↔i<k)) /\
  (∀j,j<q->listed.getD j true=false->∃o d,yn ops q j o d/\yA o O S (O d))/\G0 ops.toList (F9 jss (k-q)) (ops.toList.drop k) O S K /\
  a.defers=[]/\a.tmps.size=N/\dX w S/\(∀t,¬px ops q listed t->bB w S.dom (O t) (a.tmps.getD t undef))/\cG D S.dom w0 w
theorem Gu(h:awG ops O S K)(hr:RT O S N a w)(hd:ri N ops.toList=true)
  (hq:∀O' S' a' w',K O' S'->RT O' S' N a' w'->cG S.dom S'.dom w w'->Q .normal a' w'):(Code.region id ops true).wp ah Q a w:=by
 classical
 obtain⟨q,jss,hok,hH⟩:=h;have D:=xH hok;have hlen:(ops.toList.take q).length=q:=by rw[eI];have:=D.le;simp;omega
 obtain⟨Os,al,e0,hK,hi⟩:=oA _ _ _ _ _ hH;rw[hlen]at hK;obtain⟨hpe,hK⟩:=hK;have hi':∀(i:Nat) (o:Oper),i<q->ops[i]? = some o->∃z,yA o (Os i) S z/\Os (i+1)=(Os i).put o.dst z:=by
  intro i o g c;have F:(ops.toList.take q)[i]? = some o:=by rw[eW,if_pos g];simpa using c
  rcases hi i o F with⟨t,d,X,u,h2,h3,h4,h5⟩|⟨_,h5⟩
  ·exfalso;have:(d,X)∈([]:List (Nat×dH))++(dY q).filterMap (fun i=>(al i).bind fun X=>((ops.toList.take q)[i]?).bind fun o=>o.dst.map fun d=>(d,X)):=by
    rw[mc,iO];exact⟨i,by simpa using g,by rw[h4,F];simp[h2]⟩
   rw[List.isEmpty_iff.1 hpe]at this
   cases this
  ·exact h5
 have step_ne:∀i o t,i<q->ops[i]? = some o->o.dst≠some t->Os (i+1) t=Os i t:=by
  intro i o t g c A;obtain⟨z,_,h5⟩:=hi' i o g c;rw[h5]
  cases hdo:o.dst with
  | none=>rw[Tm.put_eq]
  | some d=>simp only[Tm.put_eq];rw[if_neg];intro e;exact A (by rw[hdo,e])
 have stable:∀t k i,i<=k->k<=q->(∀j o,i<=j->j<k->ops[j]? = some o->o.dst≠some t)->Os k t=Os i t:=by
  intro t k
  induction k with
  | zero=>intro i u _ _;rw[(om:i=0)]
  | succ k ih =>
   intro i u h2 h3;by_cases e:i=k+1
   ·rw[e]
   ·have V:k<ops.size:=by have:=D.le;omega
    rw[step_ne k ops[k] t om (aC V) (h3 k _ om om (aC V))];exact ih i om om (fun j o r b c=>h3 j o r om c)
 have w0s:dX w.drew S:=hr.st.drew;have r0:RT O S N a w.drew:=⟨hr.defers,hr.size,fun t=>bB.grow hr.st.noU (cG.drew _ w) _ _ (hr.tm t),w0s⟩;have dstN:∀(i:Nat) (o:Oper) (d:Nat),ops[i]? = some o->o.dst=some d->d<N:=by
  intro i o d c hdd;have:=ap.1 hd o (cR (by simpa using c:ops.toList[i]? = some o))
  rw[hdd]at this;simpa using this
 have HT:∀listed a' w',mq ops q S (Os q) N w.drew listed a' w'->(∀j,j<q->listed.getD j true=false->∃o d,yn ops q j o d)->lk ops q jss K S.dom N w.drew listed a' w':=by
  intro listed a' w' H G;refine⟨q,Os q,S,af _,D.le,H.size,fun i hi1 P=>?_,fun j x f=>?_,by rw[bH];exact hK,H.defers,H.tsize,w0s.frozen H.gr,fun t A=>?_,H.gr.any _⟩
  ·rw[H.tailU i hi1 P];constructor
   ·intro h;cases h
   ·intro h;omega
  ·obtain⟨o,d,I⟩:=G j x f;refine⟨o,d,I,?_⟩;obtain⟨z,hz,hO⟩:=hi' j o x I.op;have e1:Os q d=z:=by
    rw[stable d q (j+1) om (af _) (fun i p hi1 P J hpd=>by
     have:=D.apart j o i p d x P I.op J I.dst hpd;omega),hO,I.dst]
    simp[Tm.put_eq]
   rw[e1];refine lG (j8 fun t A=>?_) hz;rw[stable t q j om (af _) (fun i p hi1 P J L=>by
    have:=(D.reads j o i p t x P I.op J L A).1;omega)]
  ·refine H.tm t (fun j o x c hot=>?_)
   cases W:listed.getD j false with
   | true=>rfl
   | false =>
    have b:listed.getD j true=false:=by
     have hjs:j<listed.size:=by rw[H.size];exact(ci.1 c).1
     rw[aD,aC hjs]at W ⊢;exact W
    obtain⟨o',d,I⟩:=G j x b;have F:=I.op;rw[c]at F;cases F;have B:=I.dst;rw[hot]at B;cases B;exact absurd ⟨j,o,b,I⟩ A
 have tailStep:∀listed a' w' i,lk ops q jss K S.dom N w.drew listed a' w'->gM ops listed->i∈cQ .any ops listed->wpOp ah ops Q i (fun a'' w''=>mq ops q S (Os q) N w.drew (listed.setIfInBounds i true) a'' w''∨lk ops q jss K S.dom N w.drew (listed.setIfInBounds i true) a'' w'') a' w':=by
  intro listed a' w' i T E hi;obtain⟨k,O',S',hk1,hk2,Y,hl,hfr,hL,C,M,R,U,hG⟩:=T.ex;obtain⟨o,c,Z,l⟩:=dG hi;have hio:i<ops.size:=(ci.1 c).1;have s:i<listed.size:=om
  unfold wpOp;simp only[c];rw[if_pos (by simp[eH,D.guard i o c])]
  refine bn ?_;rcases az i q with g|g
  ·
   obtain⟨o',d,I,hok'⟩:=hfr i g Z;have F:=I.op;rw[c]at F;cases F;have B:=I.dst
   let Om:Tm:=fun t=>if px ops q listed t then .any else O' t
   have hRm:RT Om S' N a' w':=⟨C,M,fun t=>by
    simp only[Om];split
    ·simp[bB]
    ·rename_i hc;exact U t hc,R⟩
   have hLm:=lG (O':=Om) (j8 fun t A=>by
    simp only[Om];rw[if_neg];rintro⟨j,oj,f,n⟩;have:=l j (D.reads i o j oj t g n.lt c n.op n.dst A).2;rw[fA this]at f;cases f) hok'
   refine mI hLm hRm (fun v w'' W hg=>aK ⟨k,O',S',hk1,hk2,by simp[Y],fun j r b=>?_,fun j r b=>?_,hL,by rw[iD];exact C,by rw[jY];exact M,R.frozen hg,fun t A=>?_,hG.trans (hg.any _)⟩)
   ·rw[cu _ _ _ _ s,if_neg om];exact hl j r b
   ·rw[cu _ _ _ _ s]at b;by_cases e:j=i
    ·rw[if_pos e]at b;cases b
    ·rw[if_neg e]at b;exact hfr j r b
   ·rw[B];by_cases e:t=d
    ·subst e;rw[put_eq (by rw[M];exact dstN i o t c B)];exact W
    ·rw[jS (by intro e2;cases e2;exact e rfl)]
     refine bB.grow R.noU (hg.any _) _ _ (U t ?_);rintro⟨j,oj,f,n⟩;refine A ⟨j,oj,?_,n⟩;rw[cu _ _ _ _ s,if_neg]
     ·exact f
     ·rintro rfl;have hoj:=n.op;rw[c]at hoj;cases hoj;have hdj:=n.dst;rw[B]at hdj;cases hdj;exact e rfl
  ·have hik:i=k:=by
    rcases da i k with u|u|u
    ·rw[(hl i g hio).2 u]at Z;cases Z
    ·exact u
    ·rcases D.tail i o g c k u with h2|⟨_,p,d,h2⟩
     ·have hk3:listed.getD k false=true:=h2.elim (l k) (fm E 12 k i o c l);have:=(hl k om om).1 (fA hk3);omega
     ·have:=h2.lt;omega
   subst hik;have hdrop:ops.toList.drop i=o::ops.toList.drop (i+1):=by
    have u:ops.toList[i]? = some o:=by simpa using c
    rw[iY (by simpa using hio)]
    congr 1;exact(dj.1 u).2
   rw[hdrop]at hL;unfold G0 at hL
   let Om:Tm:=fun t=>if px ops q listed t then .any else O' t
   have hRm:RT Om S' N a' w':=⟨C,M,fun t=>by
    simp only[Om];split
    ·simp[bB]
    ·rename_i hc;exact U t hc,R⟩
   have hLm:=qV (O':=Om) (j8 fun t A=>by
    simp only[Om];rw[if_neg];rintro⟨j,y,f,n⟩;have:=l j ((n.tail i o g c).2 A);rw[fA this]at f;cases f) hL
   refine lD hLm hRm (fun z v w'' S'' hz W hs hg=>aK ⟨i+1,O'.put o.dst z,S'',om,om,by simp[Y],fun j r b=>?_,fun j r b=>?_,by rw[(om:i+1-q=(i-q)+1)];exact hz.2,by rw[iD];exact C,by rw[jY];exact M,hs,fun t A=>?_,hG.trans hg⟩)
   ·rw[cu _ _ _ _ s];by_cases e:j=i
    ·rw[if_pos e];simp;omega
    ·rw[if_neg e,hl j r b];omega
   ·rw[cu _ _ _ _ s,if_neg om]at b;obtain⟨p,d,I,_⟩:=hfr j r b;refine⟨p,d,I,?_⟩;have hjs:j∈xt (F9 jss (i-q)):=by
     rcases D.tail i o g c j om with u|u
     ·rw[fA (u.elim (l j) (fm E 12 j i o c l))]at b;cases b
     ·exact u.1
    obtain⟨p',d',u,h2,h3⟩:=oX hz.1 j hjs;have h4:ops.toList[j]? = some p:=by simpa using I.op
    rw[h4]at u;cases u;have h5:=I.dst;rw[h2]at h5;cases h5;exact h3
   ·have hlate:¬px ops q listed t:=by
     rintro⟨j,y,f,n⟩;refine A ⟨j,y,?_,n⟩;rw[cu _ _ _ _ s,if_neg]
     ·exact f
     ·have:=n.lt;omega
    by_cases e:o.dst=some t
    ·rw[e,put_eq (by rw[M];exact dstN i o t c e)]
     rw[show(O'.put (some t) z) t=z by simp[Tm.put_eq]];exact W
    ·rw[jS e];have hold:=bB.grow R.noU hg _ _ (U t hlate)
     cases hdo:o.dst with
     | none=>rw[vO];exact hold
     | some e'=>rw[ob (fun e2=>e (by rw[hdo,e2]))];exact hold
 have headStep:∀listed a' w' i,mq ops q S (Os q) N w.drew listed a' w'->gM ops listed->i∈cQ .any ops listed->wpOp ah ops Q i (fun a'' w''=>mq ops q S (Os q) N w.drew (listed.setIfInBounds i true) a'' w''∨lk ops q jss K S.dom N w.drew (listed.setIfInBounds i true) a'' w'') a' w':=by
  intro listed a' w' i H E hi;obtain⟨o,c,Z,l⟩:=dG hi;have hio:i<ops.size:=(ci.1 c).1;have s:i<listed.size:=by rw[H.size];exact hio
  rcases az i q with g|g
  ·have hset:∀j d,(listed.setIfInBounds i true).getD j d=if j=i then true else listed.getD j d:=fun j d=>cu _ _ _ _ s
   have hS:dX w' S:=w0s.frozen H.gr;obtain⟨z,hz,hO⟩:=hi' i o g c
   let Oe:Tm:=fun t=>if (∀(j:Nat) (p:Oper),j<q->ops[j]? = some p->p.dst=some t->listed.getD j false=true)then Os q t else .any
   have hRe:RT Oe S N a' w':=⟨H.defers,H.tsize,fun t=>by
    simp only[Oe];split
    ·rename_i hc;exact H.tm t hc
    ·simp[bB],hS⟩
   have hze:yA o Oe S z:=lG (j8 fun t A=>by
    have hc:∀(j:Nat) (p:Oper),j<q->ops[j]? = some p->p.dst=some t->listed.getD j false=true:=fun j p x J L =>
     l j (D.reads i o j p t g x c J L A).2
    simp only[Oe];rw[if_pos hc,stable t q i om (af _) (fun j p r b J L=>by
     have:=(D.reads i o j p t g b c J L A).1;omega)]) hz
   unfold wpOp;simp only[c];rw[if_pos (by simp[eH,D.guard i o c])]
   refine bn (mI hze hRe (fun v w'' W hg=>bn ⟨by simp[H.size],fun j r b=>?_,by rw[iD];exact H.defers,by rw[jY];exact H.tsize,H.gr.trans hg,fun t A=>?_⟩))
   ·rw[hset,if_neg om];exact H.tailU j r b
   ·by_cases e:o.dst=some t
    ·rw[e,put_eq (by rw[H.tsize];exact dstN i o t c e)]
     have:Os q t=z:=by
      rw[stable t q (i+1) om (af _) (fun j p r b J hpd=>by
       have:=D.apart i o j p t g b c J e hpd;omega),hO,e]
      simp[Tm.put_eq]
     rw[this];exact W
    ·rw[jS e];refine bB.grow hS.noU (hg.any _) _ _ (H.tm t (fun j p x J L=>?_));have:=A j p x J L;rw[hset]at this;by_cases e2:j=i
     ·subst e2;rw[c]at J;cases J;exact absurd L e
     ·rw[if_neg e2]at this;exact this
  ·refine tailStep listed a' w' i (HT listed a' w' H (fun j x f=>?_)) E hi;rcases D.tail i o g c j om with u|u
   ·rw[fA (u.elim (l j) (fm E 12 j i o c l))]at f;cases f
   ·exact u.2
 have first:∀listed,listed.size=ops.size->cQ .any ops listed=[]->∀m,m<=ops.size->∀j,j<m->listed.getD j false=true:=by
  intro listed Y hre m
  induction m with
  | zero=>intro _ j x;omega
  | succ m ih =>
   intro hm j x;by_cases e:j<m
   ·exact ih om j e
   ·obtain rfl:j=m:=om
    have hjo:j<ops.size:=om
    cases W:listed.getD j false with
    | true=>rfl
    | false =>
     have b:listed.getD j true=false:=by
      rw[aD,aC om]at W ⊢;exact W
     have:j∈cQ .any ops listed:=pJ (aC hjo) b (fun k V=>ih om k (D.back j _ (aC hjo) k V));rw[hre]at this;cases this
 refine wp_region_any kr (jK (fun listed a' w'=>gM ops listed/\(mq ops q S (Os q) N w.drew listed a' w'∨lk ops q jss K S.dom N w.drew listed a' w')) ?_ ?_ ops.size _ a w.drew ?_ ⟨fun i o c h=>?_,bn ?_⟩)
 ·intro listed a' w' i hI hi;obtain⟨E,hI⟩:=hI;have hcl':gM ops (listed.setIfInBounds i true):=by
   obtain⟨o,c,Z,l⟩:=dG hi;have hgo:∀k,listed.getD k false=true->(listed.setIfInBounds i true).getD k false=true:=fun k V=>by
    rw[aD]at V ⊢;rw[pn];split
    ·split<;>simp_all
    ·exact V
   intro j p J x k V;by_cases e:j=i
   ·subst e;rw[c]at J;cases J;exact hgo k (l k V)
   ·refine hgo k (E j p J ?_ k V);rw[aD]at x ⊢
    rwa [ct (ai e)]at x
  have e:(fun a'' w''=>gM ops (listed.setIfInBounds i true)/\(mq ops q S (Os q) N w.drew (listed.setIfInBounds i true) a'' w''∨lk ops q jss K S.dom N w.drew (listed.setIfInBounds i true) a'' w''))=fun a'' w''=>(mq ops q S (Os q) N w.drew (listed.setIfInBounds i true) a'' w''∨lk ops q jss K S.dom N w.drew (listed.setIfInBounds i true) a'' w''):=by
   funext a'' w'';simp[hcl']
  show wpOp ah ops Q i (fun a'' w''=>gM ops (listed.setIfInBounds i true)/\(mq ops q S (Os q) N w.drew (listed.setIfInBounds i true) a'' w''∨lk ops q jss K S.dom N w.drew (listed.setIfInBounds i true) a'' w'')) a' w';rw[e];rcases hI with H|T
  ·exact headStep listed a' w' i H E hi
  ·exact tailStep listed a' w' i T E hi
 ·rintro listed a' w' ⟨_,hI⟩ hre;have fin:lk ops q jss K S.dom N w.drew listed a' w'->Q .normal a' w':=by
   intro T;obtain⟨k,O',S',hk1,hk2,Y,hl,hfr,hL,C,M,R,U,hG⟩:=T.ex;have G:=first listed Y hre ops.size (af _)
   have V:k=ops.size:=by
    rcases az k ops.size with u|u
    ·have:=(hl k hk1 u).1 (fA (G k u));omega
    ·omega
   rw[V,gF sm]at hL
   refine hq O' S' a' w' hL ⟨C,M,fun t=>U t ?_,R⟩ ((cG.drew S.dom w).trans hG);rintro⟨j,y,f,n⟩;rw[fA (G j (by have:=n.lt;have:=D.le;omega))]at f;cases f
  rcases hI with H|T
  ·refine fin (HT listed a' w' H (fun j x f=>?_));rw[fA (first listed H.size hre ops.size (af _) j (by have:=D.le;omega))]at f;cases f
  ·exact fin T
 ·simp only[JA];exact bI nv sm
 ·rw[n0]at h;cases h
 ·refine⟨sm,fun i _ P=>AC P,hr.defers,hr.size,cG.refl _ _,fun t A=>?_⟩
  have hno:∀(j:Nat) (o:Oper),j<q->ops[j]? = some o->o.dst≠some t:=by
   intro j o x c hdt;have:=A j o x c hdt;rw[n0]at this;cases this
  rw[stable t q 0 om (af _) (fun j o _ x c=>hno j o x c),e0];exact r0.tm t

def awA(ops:Array Oper)(O:Tm)(S:St)(K:Tm->St->Prop):Prop:=∃q jss,zQ ops q jss=true /\
 Br (ops.toList.take q) O S [] (fun O' pend=>mS pend (sM (lL (ops.toList.take q)) O') S (fun O S=>lv ops.toList O S (xt jss)/\G0 ops.toList jss (ops.toList.drop q) O S K))
theorem sV{P:Nat->Prop}:∀(pend:List (Nat×dH)) (O0:Tm) {O1:Tm} (S:St) (K:Tm->St->Prop),mS pend O0 S K->(∀t,¬P t->O1 t=O0 t)->mS pend O1 S (fun O S=>∃O',(∀t,¬P t->O t=O' t)/\K O' S)
 | [],O0,O1,S,K,h,a=>by simp only[mS]at h ⊢;exact⟨O0,a,h⟩
 | (d,X)::r,O0,O1,S,K,h,a=>by
  simp only[mS]at h ⊢;intro b c;refine sV r _ _ K (h b c) (fun t e=>?_);simp only[Tm.put_eq];split
  ·rfl
  ·exact a t e
theorem Gx(h:awA ops O S K)(hr:RT O S N a w)(hd:ri N ops.toList=true)
  (hq:∀O' S' a' w',K O' S'->RT O' S' N a' w'->cG S.dom S'.dom w w'->Q .normal a' w'):(Code.region id ops true).wp ah Q a w:=by
 classical
 obtain⟨q,jss,hok,hH⟩:=h;have D:=xH hok;have hlen:(ops.toList.take q).length=q:=by rw[eI];have:=D.le;simp;omega
 obtain⟨Os,al,e0,hK,hi⟩:=oA _ _ _ _ _ hH;rw[hlen]at hK;have hi':∀(i:Nat) (o:Oper),i<q->ops[i]? = some o->(∃t d X,o.op=.alloc t/\o.dst=some d/\lB t=some X/\al i=some X/\Os (i+1)=(Os i).put (some d) .any) ∨
   (al i=ae/\∃z,yA o (Os i) S z/\Os (i+1)=(Os i).put o.dst z):=fun i o l g=>hi i o (by rw[eW,if_pos l];simpa using g)
 have step_ne:∀i o t,i<q->ops[i]? = some o->o.dst≠some t->Os (i+1) t=Os i t:=by
  intro i o t l g U;rcases hi' i o l g with⟨_,d,X,_,r,_,_,A⟩|⟨_,z,_,A⟩
  ·rw[A];simp only[Tm.put_eq];rw[if_neg];intro e;exact U (by rw[r,e])
  ·rw[A]
   cases hdo:o.dst with
   | none=>rw[Tm.put_eq]
   | some d=>simp only[Tm.put_eq];rw[if_neg];intro e;exact U (by rw[hdo,e])
 have stable:∀t k i,i<=k->k<=q->(∀j o,i<=j->j<k->ops[j]? = some o->o.dst≠some t)->Os k t=Os i t:=by
  intro t k
  induction k with
  | zero=>intro i c _ _;rw[(om:i=0)]
  | succ k ih =>
   intro i c r E;by_cases e:i=k+1
   ·rw[e]
   ·have W:k<ops.size:=by have:=D.le;omega
    rw[step_ne k ops[k] t om (aC W) (E k _ om om (aC W))];exact ih i om om (fun j o J n g=>E j o J om g)
 have w0s:dX w.drew S:=hr.st.drew;have r0:RT O S N a w.drew:=⟨hr.defers,hr.size,fun t=>bB.grow hr.st.noU (cG.drew _ w) _ _ (hr.tm t),w0s⟩;have dstN:∀(i:Nat) (o:Oper) (d:Nat),ops[i]? = some o->o.dst=some d->d<N:=by
  intro i o d g hdd;have:=ap.1 hd o (cR (by simpa using g:ops.toList[i]? = some o))
  rw[hdd]at this;simpa using this
 have HT:∀listed a' w',pC ops q S (Os q) al N a w.drew listed a' w'->(∀j,j<q->listed.getD j true=false->j∈xt jss/\∃o d,yn ops q j o d)->lk ops q jss K S.dom N w.drew listed a' w':=by
  intro listed a' w' H hall;have hlist:∀(j:Nat) (o:Oper),j<q->ops[j]? = some o->listed.getD j true≠false->listed.getD j false=true:=by
   intro j o I g hn;have hjs:j<listed.size:=by rw[H.size];exact(ci.1 g).1
   rw[aD,aC hjs]at hn ⊢;simpa using hn
  have halloc:∀(i:Nat) (o:Oper) (X:dH),i<q->ops[i]? = some o->al i=some X->listed.getD i false=true:=by
   intro i o X l g hX;refine hlist i o l g (fun Z=>?_);obtain⟨_,o',d,hf⟩:=hall i l Z;have ho':=hf.op;rw[g]at ho';cases ho';rcases hi' i o l g with⟨t,d,Y,c,_⟩|⟨c,_⟩
   ·have:=hf.pure;rw[c]at this;simp[Ci]at this
   ·rw[hX]at c;cases c
  have hS:dX w' S:=w0s.frozen H.gr;have htm:∀t,¬px ops q listed t->bB w' S.dom (Os q t) (a'.tmps.getD t undef):=fun t U=>H.tm t (fun j o I g hot=>by
   refine hlist j o I g (fun Z=>?_);obtain⟨_,o',d,hf⟩:=hall j I Z;have ho':=hf.op;rw[g]at ho';cases ho';have F:=hf.dst;rw[hot]at F;cases F;exact U ⟨j,o,Z,hf⟩)
  suffices hsuf:∃O' S',(lv ops.toList O' S' (xt jss)/\G0 ops.toList jss (ops.toList.drop q) O' S' K)/\dX w' S'/\(∀t,¬px ops q listed t->bB w' S'.dom (O' t) (a'.tmps.getD t undef))/\cG S.dom S'.dom w.drew w' by
   obtain⟨O',S',⟨g1,g2⟩,g3,g4,g5⟩:=hsuf;refine⟨q,O',S',af _,D.le,H.size,fun i hi1 hi2=>?_,fun j I C=>?_,by rw[bH];exact g2,H.defers,H.tsize,g3,g4,g5⟩
   ·rw[H.tailU i hi1 hi2];constructor
    ·intro h;cases h
    ·intro h;omega
   ·obtain⟨hjs,o,d,hf⟩:=hall j I C;refine⟨o,d,hf,?_⟩;obtain⟨p',d',c,r,E⟩:=oX g1 j hjs;have G:ops.toList[j]? = some o:=by simpa using hf.op
    rw[G]at c;cases c;have A:=hf.dst;rw[r]at A;cases A;exact E
  generalize hpe:(([]:List (Nat×dH))++(dY q).filterMap (fun i=>(al i).bind fun X=>((ops.toList.take q)[i]?).bind fun o=>o.dst.map fun d=>(d,X)))=pend at hK;have hK2:=sV (O1:=fun t=>if px ops q listed t then .any else sM (lL (ops.toList.take q)) (Os q) t) (P:=px ops q listed) pend _ S _ hK (fun t U=>by simp only[if_neg U])
  clear hK;have hK:=hK2;obtain⟨B,hB1,hB2⟩:=H.news
  let idx:=(dY q).filter (fun i=>((al i).bind fun X=>((ops.toList.take q)[i]?).bind fun o=>o.dst.map fun d=>(d,X)).isSome)
  let f:Nat->Nat×dH×Nat:=fun i=>match ((al i).bind fun X=>((ops.toList.take q)[i]?).bind fun o=>o.dst.map fun d=>(d,X))with
   | some (d,X)=>(d,X,B i)
   | ae=>(0,⟨0,0,0,fun _=>.any⟩,B i)
  have hidx:∀i∈idx,∃o X d,i<q/\ops[i]? = some o/\al i=some X/\o.dst=some d/\f i=(d,X,B i):=by
   intro i hii;simp only[idx,List.mem_filter,List.mem_range]at hii;obtain⟨c,r⟩:=hii;obtain⟨p,hp⟩:=Option.isSome_iff_exists.1 r;have hf:f i=(p.1,p.2,B i):=by simp only[f,hp]
   simp only[Option.bind_eq_some_iff,Option.map_eq_some_iff]at hp;obtain⟨X,hX,o,g,d,hd1,hd2⟩:=hp;rw[eW,if_pos c]at g;refine⟨o,X,d,c,by simpa using g,hX,hd1,?_⟩
   rw[hf,<-hd2]
  have hpend:pend=(idx.map f).map fun x=>(x.1,x.2.1):=by
   rw[<-hpe,mc,List.map_map];simp only[idx];generalize dY q=rg
   induction rg with
   | nil=>rfl
   | cons i rg ih =>
    simp only[List.filterMap_cons,List.filter_cons]
    cases hc:((al i).bind fun X=>((ops.toList.take q)[i]?).bind fun o=>o.dst.map fun d=>(d,X))with
    | none=>simp only[Option.isSome_none,bQ,if_false];exact ih
    | some p=>simp only[Option.isSome_some,if_true,List.map_cons];rw[<-ih];simp only[Function.comp,f,hc]
  rw[hpend]at hK
  let M:Nat->Prop:=fun b=>S.dom b∨w.drew.heap.size<=b
  have hnuM:NF M w.drew:=by
   intro b hb cs ty fr hc;rcases hb with hb|hb
   ·exact w0s.noU b hb cs ty fr hc
   ·exact absurd (dW hc) om
  have up:∀x v,bB w.drew S.dom x v->bB w' M x v:=fun x v hx =>
   bB.grow hnuM (H.gr.any M) x v (bB.turn (M:=S.dom) (M':=M) (fun k W hm=>by
    rcases hm with hm|hm
    ·exact hm
    ·omega) x v hx)
  have hres:=qi (a:=a') (w:=w') (N:=N) (B0:=w.drew.heap.size) (M:=M) (idx.map f) _ S hK
   (fun b X hX=>by
    obtain⟨cs,c,r,E,G⟩:=w0s b X hX;exact⟨cs,(H.gr.keep b (dW c) (fun x=>x)).trans c,r,fun j I=>by obtain⟨u,A,h6⟩:=E j I;exact⟨u,A,up _ _ h6⟩,G⟩)
   (fun t=>by
    by_cases hlt:px ops q listed t
    ·simp only[if_pos hlt];simp[bB]
    simp only[if_neg hlt,sM];by_cases hin:(lL (ops.toList.take q)).contains t=true
    ·by_cases hmf:qN (Os q t)=true
     ·simp only[hmf,Bool.not_true,Bool.and_false,bQ,if_false];exact qM hmf (htm t hlt)
     ·simp only[hin,hmf,Bool.not_false,Bool.and_self,if_true];simp[bB]
    ·simp only[hin,Bool.false_and,bQ,if_false];have hno:∀(j:Nat) (o:Oper),j<q->ops[j]? = some o->o.dst≠some t:=by
      intro j o I g hdt;apply hin;simp only[lL,List.contains_iff_mem,iO];exact⟨o,cR (i:=j) (by rw[eW,if_pos I];simpa using g),hdt⟩
     rw[H.old t hno,stable t q 0 om (af _) (fun j o _ I g=>hno j o I g),e0];exact up _ _ (r0.tm t))
   (fun x hx=>by
    obtain⟨i,hii,rfl⟩:=fK.1 hx;obtain⟨o,X,d,c,r,E,G,A⟩:=hidx i hii;rw[A];obtain⟨g1,g2,g3⟩:=hB1 i o X d c r E G (halloc i _ _ c r E);exact⟨g1,g3⟩)
   (by
    rw[List.map_map];refine oW (List.Pairwise.filter _ List.nodup_range) (fun i hii j hjj e=>?_);obtain⟨o,X,d,c,r,E,G,A⟩:=hidx i hii;obtain⟨o',X',d',h1',h2',h3',h4',h5'⟩:=hidx j hjj;simp only[Function.comp,A,h5']at e;exact hB2 i j c h1' (by rw[E];rfl) (by rw[h3'];rfl) (halloc i _ _ c r E) (halloc j _ _ h1' h2' h3') e)
   (fun x hx=>by
    obtain⟨i,hii,rfl⟩:=fK.1 hx;obtain⟨o,X,d,c,r,E,G,A⟩:=hidx i hii;rw[A];obtain⟨g1,g2,g3⟩:=hB1 i o X d c r E G (halloc i _ _ c r E);exact⟨w0s.fresh g2,g2⟩)
  obtain⟨O',S',⟨O2,R,k1⟩,k2,k3,k4⟩:=hres;have hdom:∀k,k<w'.heap.size->S'.dom k->M k:=fun k _ W=>k4 k W;refine⟨O2,S',k1,fun b X hX=>?_,fun t U=>?_,?_⟩
  ·obtain⟨cs,c,r,E,G⟩:=k2 b X hX;exact⟨cs,c,r,fun j I=>by obtain⟨u,A,h6⟩:=E j I;exact⟨u,A,bB.turn hdom _ _ h6⟩,G⟩
  ·rw[<-R t U];exact bB.turn hdom _ _ (k3 t)
  ·refine⟨H.gr.os,H.gr.tape,H.gr.output,H.gr.size,fun k W _=>H.gr.keep k W (fun x=>x),H.gr.shape,fun k W hm=>?_⟩;rcases k4 k hm with h6|h6
   ·exact h6
   ·exact absurd W om
 have tailStep:∀listed a' w' i,lk ops q jss K S.dom N w.drew listed a' w'->gM ops listed->i∈cQ .any ops listed->wpOp ah ops Q i (fun a'' w''=>pC ops q S (Os q) al N a w.drew (listed.setIfInBounds i true) a'' w''∨lk ops q jss K S.dom N w.drew (listed.setIfInBounds i true) a'' w'') a' w':=by
  intro listed a' w' i T hcl hi;obtain⟨k,O',S',hk1,hk2,hsz,hl,hfr,hL,hdef,hts,hrs,htm,hG⟩:=T.ex;obtain⟨o,g,Z,s⟩:=dG hi;have hio:i<ops.size:=(ci.1 g).1;have V:i<listed.size:=om
  unfold wpOp;simp only[g];rw[if_pos (by simp[eH,D.guard i o g])]
  refine bn ?_;rcases az i q with l|l
  ·
   obtain⟨o',d,hf,hok'⟩:=hfr i l Z;have ho':=hf.op;rw[g]at ho';cases ho';have F:=hf.dst
   let Om:Tm:=fun t=>if px ops q listed t then .any else O' t
   have hRm:RT Om S' N a' w':=⟨hdef,hts,fun t=>by
    simp only[Om];split
    ·simp[bB]
    ·rename_i hc;exact htm t hc,hrs⟩
   have hLm:=lG (O':=Om) (j8 fun t U=>by
    simp only[Om];rw[if_neg];rintro⟨j,oj,C,L⟩;have:=s j (D.reads i o j oj t l L.lt g L.op L.dst U).2;rw[fA this]at C;cases C) hok'
   refine mI hLm hRm (fun v w'' hv hg=>aK ⟨k,O',S',hk1,hk2,by simp[hsz],fun j J n=>?_,fun j J n=>?_,hL,by rw[iD];exact hdef,by rw[jY];exact hts,hrs.frozen hg,fun t U=>?_,hG.trans (hg.any _)⟩)
   ·rw[cu _ _ _ _ V,if_neg om];exact hl j J n
   ·rw[cu _ _ _ _ V]at n;by_cases e:j=i
    ·rw[if_pos e]at n;cases n
    ·rw[if_neg e]at n;exact hfr j J n
   ·rw[F];by_cases e:t=d
    ·subst e;rw[put_eq (by rw[hts];exact dstN i o t g F)];exact hv
    ·rw[jS (by intro R;cases R;exact e rfl)]
     refine bB.grow hrs.noU (hg.any _) _ _ (htm t ?_);rintro⟨j,oj,C,L⟩;refine U ⟨j,oj,?_,L⟩;rw[cu _ _ _ _ V,if_neg]
     ·exact C
     ·rintro rfl;have hoj:=L.op;rw[g]at hoj;cases hoj;have hdj:=L.dst;rw[F]at hdj;cases hdj;exact e rfl
  ·have hik:i=k:=by
    rcases da i k with c|c|c
    ·rw[(hl i l hio).2 c]at Z;cases Z
    ·exact c
    ·rcases D.tail i o l g k c with r|⟨_,p,d,r⟩
     ·have hk3:listed.getD k false=true:=r.elim (s k) (fm hcl 12 k i o g s);have:=(hl k om om).1 (fA hk3);omega
     ·have:=r.lt;omega
   subst hik;have hdrop:ops.toList.drop i=o::ops.toList.drop (i+1):=by
    have c:ops.toList[i]? = some o:=by simpa using g
    rw[iY (by simpa using hio)]
    congr 1;exact(dj.1 c).2
   rw[hdrop]at hL;unfold G0 at hL
   let Om:Tm:=fun t=>if px ops q listed t then .any else O' t
   have hRm:RT Om S' N a' w':=⟨hdef,hts,fun t=>by
    simp only[Om];split
    ·simp[bB]
    ·rename_i hc;exact htm t hc,hrs⟩
   have hLm:=qV (O':=Om) (j8 fun t U=>by
    simp only[Om];rw[if_neg];rintro⟨j,y,C,L⟩;have:=s j ((L.tail i o l g).2 U);rw[fA this]at C;cases C) hL
   refine lD hLm hRm (fun z v w'' S'' hz hv hs hg=>aK ⟨i+1,O'.put o.dst z,S'',om,om,by simp[hsz],fun j J n=>?_,fun j J n=>?_,by rw[(om:i+1-q=(i-q)+1)];exact hz.2,by rw[iD];exact hdef,by rw[jY];exact hts,hs,fun t U=>?_,hG.trans hg⟩)
   ·rw[cu _ _ _ _ V];by_cases e:j=i
    ·rw[if_pos e];simp;omega
    ·rw[if_neg e,hl j J n];omega
   ·rw[cu _ _ _ _ V,if_neg om]at n;obtain⟨p,d,hf,_⟩:=hfr j J n;refine⟨p,d,hf,?_⟩;have hjs:j∈xt (F9 jss (i-q)):=by
     rcases D.tail i o l g j om with c|c
     ·rw[fA (c.elim (s j) (fm hcl 12 j i o g s))]at n;cases n
     ·exact c.1
    obtain⟨p',d',c,r,E⟩:=oX hz.1 j hjs;have G:ops.toList[j]? = some p:=by simpa using hf.op
    rw[G]at c;cases c;have A:=hf.dst;rw[r]at A;cases A;exact E
   ·have hlate:¬px ops q listed t:=by
     rintro⟨j,y,C,L⟩;refine U ⟨j,y,?_,L⟩;rw[cu _ _ _ _ V,if_neg]
     ·exact C
     ·have:=L.lt;omega
    by_cases e:o.dst=some t
    ·rw[e,put_eq (by rw[hts];exact dstN i o t g e)]
     rw[show(O'.put (some t) z) t=z by simp[Tm.put_eq]];exact hv
    ·rw[jS e];have hold:=bB.grow hrs.noU hg _ _ (htm t hlate)
     cases hdo:o.dst with
     | none=>rw[vO];exact hold
     | some e'=>rw[ob (fun R=>e (by rw[hdo,R]))];exact hold
 have headStep:∀listed a' w' i,pC ops q S (Os q) al N a w.drew listed a' w'->gM ops listed->i∈cQ .any ops listed->wpOp ah ops Q i (fun a'' w''=>pC ops q S (Os q) al N a w.drew (listed.setIfInBounds i true) a'' w''∨lk ops q jss K S.dom N w.drew (listed.setIfInBounds i true) a'' w'') a' w':=by
  intro listed a' w' i H hcl hi;obtain⟨o,g,Z,s⟩:=dG hi;have hio:i<ops.size:=(ci.1 g).1;have V:i<listed.size:=by rw[H.size];exact hio
  rcases az i q with l|l
  ·have hset:∀j d,(listed.setIfInBounds i true).getD j d=if j=i then true else listed.getD j d:=fun j d=>cu _ _ _ _ V
   have gr2:∀{w'':World},cG qu qu w' w''->cG qu qu w.drew w'':=fun hg=>H.gr.trans hg;have hS:dX w' S:=w0s.frozen H.gr;have mk:∀(v:Value) (w'':World),cG qu qu w' w''->(∀d,o.dst=some d->bB w'' S.dom (Os q d) v) ->
     (∃B:Nat->Nat,(∀(j:Nat) (p:Oper) (X:dH) (d:Nat),j<q->ops[j]? = some p->al j=some X->p.dst=some d->(listed.setIfInBounds i true).getD j false=true ->
       (a'.put o.dst v).tmps.getD d undef=.pointer (some ⟨B j,0,ae⟩)/\w.drew.heap.size<=B j/\∃zc,w''.heap[B j]? = some (.cells zc X.ty (0,0))/\ZX X zc) /\
      ∀j k,j<q->k<q->(al j).isSome=true->(al k).isSome=true->(listed.setIfInBounds i true).getD j false=true->(listed.setIfInBounds i true).getD k false=true->B j=B k->j=k) ->
     pC ops q S (Os q) al N a w.drew (listed.setIfInBounds i true) (a'.put o.dst v) w'':=by
    intro v w'' hg hz hB;refine⟨by simp[H.size],fun j J n=>?_,by rw[iD];exact H.defers,by rw[jY];exact H.tsize,gr2 hg,fun t U=>?_,fun t U=>?_,hB⟩
    ·rw[hset,if_neg om];exact H.tailU j J n
    ·by_cases e:o.dst=some t
     ·rw[e,put_eq (by rw[H.tsize];exact dstN i o t g e)]
      exact hz t e
     ·rw[jS e];refine bB.grow hS.noU (hg.any _) _ _ (H.tm t (fun j p I hp hpt=>?_));have:=U j p I hp hpt;rw[hset]at this;by_cases R:j=i
      ·subst R;rw[g]at hp;cases hp;exact absurd hpt e
      ·rw[if_neg R]at this;exact this
    ·rw[jS (U i o l g)];exact H.old t U
   rcases hi' i o l g with⟨t,d,X,hop,F,hX,hal,hO⟩|⟨hal,z,hz,hO⟩
   ·obtain⟨zc,z1,z2,z3⟩:=zV hX;unfold wpOp;simp only[g];rw[if_pos (by simp[eH,D.guard i o g])]
    refine bn (fJ (v:=.pointer (some ⟨w'.heap.size,0,ae⟩)) (w':=w'.alloc (.cells zc t)) (by simp[execOp,hop,z2 w']) (bn ?_))
    have hg:cG qu qu w' (w'.alloc (.cells zc t)):=⟨rfl,rfl,rfl,sm,fun k W _=>nU w' _ k W,fun k cs ty fr hc=>⟨cs,by rw[nU w' _ k (dW hc)];exact hc,rfl⟩,fun _ _ h=>h⟩
    obtain⟨B,hB1,hB2⟩:=H.news;have hBlt:∀(j:Nat) (p:Oper) (Y:dH) (e:Nat),j<q->ops[j]? = some p->al j=some Y->p.dst=some e->listed.getD j false=true->B j<w'.heap.size:=by
     intro j p Y e c r E G A;obtain⟨_,_,zc',hz',_⟩:=hB1 j p Y e c r E G A;exact dW hz'
    have hdsome:∀(j:Nat),j<q->(al j).isSome=true->∃p Y e,ops[j]? = some p/\al j=some Y/\p.dst=some e:=by
     intro j I hs;have hjs:j<ops.size:=by have:=D.le;omega
     rcases hi' j ops[j] I (aC hjs)with⟨_,e,Y,_,r,_,G,_⟩|⟨G,_⟩
     ·exact⟨ops[j],Y,e,aC hjs,G,r⟩
     ·rw[G]at hs;cases hs
    refine mk _ _ hg (fun d' hd'=>?_) ⟨fun j=>if j=i then w'.heap.size else B j,fun j p Y e c r E G A=>?_,fun j k c r E G A h6 h7=>?_⟩
    ·rw[F]at hd';cases hd';have:Os q d=.any:=by
      rw[stable d q (i+1) om (af _) (fun j p J n hp hpd=>by
       have:=D.apart i o j p d l n g hp F hpd;omega),hO]
      simp[Tm.put_eq]
     rw[this];simp[bB]
    ·by_cases R:j=i
     ·subst R;rw[g]at r;cases r;rw[F]at G;cases G;rw[hal]at E;cases E;simp only[if_true];refine⟨by rw[F,put_eq (by rw[H.tsize];exact dstN j o d g F)],H.gr.size,zc,?_,z3⟩
      rw[z1];exact heap_alloc_new w' _
     ·simp only[if_neg R];rw[hset,if_neg R]at A;obtain⟨g1,g2,zc',g3,g4⟩:=hB1 j p Y e c r E G A;refine⟨?_,g2,zc',?_,g4⟩
      ·rw[jS]
       ·exact g1
       ·intro e3;exact R (D.apart j p i o e c l r g G e3)
      ·rw[nU w' _ _ (dW g3)];exact g3
    ·rw[hset]at A h6;by_cases e1:j=i
     ·by_cases R:k=i
      ·rw[e1,R]
      ·simp only[if_pos e1,if_neg R]at h7;rw[if_neg R]at h6;obtain⟨p,Y,e,b1,b2,b3⟩:=hdsome k r G;have:=hBlt k p Y e r b1 b2 b3 h6;omega
     ·by_cases R:k=i
      ·simp only[if_neg e1,if_pos R]at h7;rw[if_neg e1]at A;obtain⟨p,Y,e,b1,b2,b3⟩:=hdsome j c E;have:=hBlt j p Y e c b1 b2 b3 A;omega
      ·simp only[if_neg e1,if_neg R]at h7;rw[if_neg e1]at A;rw[if_neg R]at h6;exact hB2 j k c r E G A h6 h7
   ·classical
    let Oe:Tm:=fun t=>if (∀(j:Nat) (p:Oper),j<q->ops[j]? = some p->p.dst=some t->listed.getD j false=true)then Os q t else .any
    have hRe:RT Oe S N a' w':=⟨H.defers,H.tsize,fun t=>by
     simp only[Oe];split
     ·rename_i hc;exact H.tm t hc
     ·simp[bB],hS⟩
    have hze:yA o Oe S z:=lG (j8 fun t U=>by
     have hc:∀(j:Nat) (p:Oper),j<q->ops[j]? = some p->p.dst=some t->listed.getD j false=true:=fun j p I hp hpt =>
      s j (D.reads i o j p t l I g hp hpt U).2
     simp only[Oe];rw[if_pos hc,stable t q i om (af _) (fun j p J n hp hpt=>by
      have:=(D.reads i o j p t l n g hp hpt U).1;omega)]) hz
    unfold wpOp;simp only[g];rw[if_pos (by simp[eH,D.guard i o g])]
    refine bn (mI hze hRe (fun v w'' hv hg=>bn ?_));obtain⟨B,hB1,hB2⟩:=H.news;refine mk v w'' hg (fun d hdd=>?_) ⟨B,fun j p Y e c r E G A=>?_,fun j k c r E G A h6 h7=>?_⟩
    ·have:Os q d=z:=by
      rw[stable d q (i+1) om (af _) (fun j p J n hp hpd=>by
       have:=D.apart i o j p d l n g hp hdd hpd;omega),hO,hdd]
      simp[Tm.put_eq]
     rw[this];exact hv
    ·have hji:j≠i:=fun R=>by subst R;rw[hal]at E;cases E
     rw[hset,if_neg hji]at A;obtain⟨g1,g2,zc',g3,g4⟩:=hB1 j p Y e c r E G A;refine⟨?_,g2,zc',(hg.keep _ (dW g3) (fun x=>x)).trans g3,g4⟩;rw[jS]
     ·exact g1
     ·intro e3;exact hji (D.apart j p i o e c l r g G e3)
    ·rw[hset]at A h6;have hji:j≠i:=fun R=>by subst R;rw[hal]at E;cases E
     have hki:k≠i:=fun R=>by subst R;rw[hal]at G;cases G
     rw[if_neg hji]at A;rw[if_neg hki]at h6;exact hB2 j k c r E G A h6 h7
  ·have hi0:i=q:=by
    rcases az q i with h|h
    ·exfalso;rcases D.tail i o l g q h with c|⟨_,p,d,c⟩
     ·have r:=fA (c.elim (s q) (fm hcl 12 q i o g s));rw[H.tailU q (af _) om]at r;cases r
     ·have:=c.lt;omega
    ·omega
   refine tailStep listed a' w' i (HT listed a' w' H (fun j I C=>?_)) hcl hi;rcases D.tail i o l g j om with c|c
   ·rw[fA (c.elim (s j) (fm hcl 12 j i o g s))]at C;cases C
   ·have r:=c.1;rw[hi0,bH]at r;exact⟨r,c.2⟩
 have first:∀listed,listed.size=ops.size->cQ .any ops listed=[]->∀m,m<=ops.size->∀j,j<m->listed.getD j false=true:=by
  intro listed hsz hre m
  induction m with
  | zero=>intro _ j I;omega
  | succ m ih =>
   intro hm j I;by_cases e:j<m
   ·exact ih om j e
   ·obtain rfl:j=m:=om
    have hjo:j<ops.size:=om
    cases hv:listed.getD j false with
    | true=>rfl
    | false =>
     have n:listed.getD j true=false:=by
      rw[aD,aC om]at hv ⊢;exact hv
     have:j∈cQ .any ops listed:=pJ (aC hjo) n (fun k W=>ih om k (D.back j _ (aC hjo) k W));rw[hre]at this;cases this
 refine wp_region_any kr (jK (fun listed a' w'=>gM ops listed/\(pC ops q S (Os q) al N a w.drew listed a' w'∨lk ops q jss K S.dom N w.drew listed a' w')) ?_ ?_ ops.size _ a w.drew ?_ ⟨fun i o g h=>?_,bn ?_⟩)
 ·intro listed a' w' i hI hi;obtain⟨hcl,hI⟩:=hI;have hcl':gM ops (listed.setIfInBounds i true):=by
   obtain⟨o,g,Z,s⟩:=dG hi;have hgo:∀k,listed.getD k false=true->(listed.setIfInBounds i true).getD k false=true:=fun k W=>by
    rw[aD]at W ⊢;rw[pn];split
    ·split<;>simp_all
    ·exact W
   intro j p hp I k W;by_cases e:j=i
   ·subst e;rw[g]at hp;cases hp;exact hgo k (s k W)
   ·refine hgo k (hcl j p hp ?_ k W);rw[aD]at I ⊢
    rwa [ct (ai e)]at I
  have e:(fun a'' w''=>gM ops (listed.setIfInBounds i true)/\(pC ops q S (Os q) al N a w.drew (listed.setIfInBounds i true) a'' w''∨lk ops q jss K S.dom N w.drew (listed.setIfInBounds i true) a'' w''))=fun a'' w''=>(pC ops q S (Os q) al N a w.drew (listed.setIfInBounds i true) a'' w''∨lk ops q jss K S.dom N w.drew (listed.setIfInBounds i true) a'' w''):=by
   funext a'' w'';simp[hcl']
  show wpOp ah ops Q i (fun a'' w''=>gM ops (listed.setIfInBounds i true)/\(pC ops q S (Os q) al N a w.drew (listed.setIfInBounds i true) a'' w''∨lk ops q jss K S.dom N w.drew (listed.setIfInBounds i true) a'' w'')) a' w';rw[e];rcases hI with H|T
  ·exact headStep listed a' w' i H hcl hi
  ·exact tailStep listed a' w' i T hcl hi
 ·rintro listed a' w' ⟨_,hI⟩ hre;have fin:lk ops q jss K S.dom N w.drew listed a' w'->Q .normal a' w':=by
   intro T;obtain⟨k,O',S',hk1,hk2,hsz,hl,hfr,hL,hdef,hts,hrs,htm,hG⟩:=T.ex;have hall:=first listed hsz hre ops.size (af _)
   have W:k=ops.size:=by
    rcases az k ops.size with c|c
    ·have:=(hl k hk1 c).1 (fA (hall k c));omega
    ·omega
   rw[W,gF sm]at hL
   refine hq O' S' a' w' hL ⟨hdef,hts,fun t=>htm t ?_,hrs⟩ ((cG.drew S.dom w).trans hG);rintro⟨j,y,C,L⟩;rw[fA (hall j (by have:=L.lt;have:=D.le;omega))]at C;cases C
  rcases hI with H|T
  ·refine fin (HT listed a' w' H (fun j I C=>?_));rw[fA (first listed H.size hre ops.size (af _) j (by have:=D.le;omega))]at C;cases C
  ·exact fin T
 ·simp only[JA];exact bI nv sm
 ·rw[n0]at h;cases h
 ·refine⟨sm,fun i _ hi2=>AC hi2,hr.defers,hr.size,cG.refl _ _,fun t U=>?_,fun _ _=>rfl,fun _=>0,fun i o X d c r E G A=>?_,fun i j c r E G A h6 h7=>?_⟩
  ·have hno:∀(j:Nat) (o:Oper),j<q->ops[j]? = some o->o.dst≠some t:=by
    intro j o I g hdt;have:=U j o I g hdt;rw[n0]at this;cases this
   rw[stable t q 0 om (af _) (fun j o _ I g=>hno j o I g),e0];exact r0.tm t
  ·rw[n0]at A;cases A
  ·rw[n0]at A;cases A

def I3(ops:Array Oper):Bool:=ops.toList.zipIdx.all (fun p=>(py p.1).all (fun k=>decide (k<p.2)))
def MX(ops:Array Oper)(o:Oper)(O:Tm)(S:St)(K:Tm->St->Prop):Prop:=match o.guard with
 | ae=>Bw o O S (fun z S'=>K (O.put o.dst z) S')
 | some (j,want)=>(match EL ops O j with
  | .bool b=>(b=want->Bw o O S (fun z S'=>K (O.put o.dst z) S'))/\(b=!want->K (O.put o.dst .any) S)
  | _=>False)
def awI(ops:Array Oper)(O:Tm)(S:St)(K:Tm->St->Prop):Prop:=∃P:(Nat->Bool)->Tm->St->Prop,I3 ops=true/\P (fun _=>false) O S /\
 (∀(i:Nat) (o:Oper),ops[i]? = some o->∀L O S,P L O S->L i=false->(∀k∈py o,L k=true)->MX ops o O S (P (fun k=>if k=i then true else L k))) /\
 (∀L O S,P L O S->(∀i,i<ops.size->L i=true)->K O S)
theorem Gt(h:awI ops O S K)(x:RT O S N a w)(X:ri N ops.toList=true)
  (Y:∀O' S' a' w',K O' S'->RT O' S' N a' w'->cG S.dom S'.dom w w'->Q .normal a' w'):(Code.region id ops true).wp ah Q a w:=by
 obtain⟨P,I,Z,hstep,y⟩:=h;have back:∀(j:Nat) (o:Oper),ops[j]? = some o->∀k∈py o,k<j:=by
  intro j o l k J;have c:=ap.1 I (o,j) (iE (by simpa using l))
  have h2:=ap.1 c k J;simpa using h2
 have w0s:dX w.drew S:=x.st.drew;have r0:RT O S N a w.drew:=⟨x.defers,x.size,fun t=>bB.grow x.st.noU (cG.drew _ w) _ _ (x.tm t),w0s⟩;have dstN:∀(i:Nat) (o:Oper) (d:Nat),ops[i]? = some o->o.dst=some d->d<N:=by
  intro i o d l q;have:=ap.1 X o (cR (by simpa using l:ops.toList[i]? = some o))
  rw[q]at this;simpa using this
 have first:∀listed,listed.size=ops.size->cQ .any ops listed=[]->∀m,m<=ops.size->∀j,j<m->listed.getD j false=true:=by
  intro listed g r m
  induction m with
  | zero=>intro _ j hj;omega
  | succ m ih =>
   intro hm j hj;by_cases e:j<m
   ·exact ih om j e
   ·obtain rfl:j=m:=om
    have A:j<ops.size:=om
    cases n:listed.getD j false with
    | true=>rfl
    | false =>
     have L:listed.getD j true=false:=by
      rw[aD,aC om]at n ⊢;exact n
     have:j∈cQ .any ops listed:=pJ (aC A) L (fun k J=>ih om k (back j _ (aC A) k J));rw[r]at this;cases this
 refine wp_region_any kr (jK (fun listed a' w'=>listed.size=ops.size/\∃O' S',P (fun i=>listed.getD i false) O' S'/\RT O' S' N a' w'/\cG S.dom S'.dom w.drew w') ?_ ?_ ops.size _ a w.drew ?_ ⟨sm,O,S,?_,r0,cG.refl _ _⟩)
 ·rintro listed a' w' i ⟨g,O',S',M,s,R⟩ T;obtain⟨o,l,B,C⟩:=dG T;have hil:i<ops.size:=(ci.1 l).1;have D:listed.getD i false=false:=by
   rw[aD,aC om]at B ⊢;exact B
  have hL:(fun k=>listed.getD k false) i=false:=D;have c:=hstep i o l _ O' S' M hL C;have E:(fun k=>(listed.setIfInBounds i true).getD k false)=(fun k=>if k=i then true else listed.getD k false):=by
   funext k;exact cu listed i k false om
  have nxt:∀z v w'' S'',P (fun k=>if k=i then true else listed.getD k false) (O'.put o.dst z) S''->bB w'' S''.dom z v->dX w'' S''->cG S'.dom S''.dom w' w'' ->
    ((listed.setIfInBounds i true).size=ops.size/\∃O1 S1,P (fun i_1=>(listed.setIfInBounds i true).getD i_1 false) O1 S1/\RT O1 S1 N (a'.put o.dst v) w''/\cG S.dom S1.dom w.drew w''):=by
   intro z v w'' S'' F n G u;refine⟨by simp[g],_,S'',?_,s.put u G (fun d q=>dstN i o d l q) n,R.trans u⟩
   rw[E];exact F
  unfold wpOp;simp only[l];unfold MX at c
  cases f:o.guard with
  | none =>
   rw[f]at c;rw[if_pos (by simp[eH,f])]
   exact bn (lD c s (fun z v w'' S'' F n G u=>nxt z v w'' S'' F n G u))
  | some p =>
   obtain⟨j,want⟩:=p;rw[f]at c;simp only at c
   cases W:EL ops O' j<;>rw[W]at c<;>try exact c.elim
   rename_i b;have H:=zh s W;by_cases U:b=want
   ·rw[if_pos (by simp[eH,f,H,U])]
    exact bn (lD (c.1 U) s (fun z v w'' S'' F n G u=>nxt z v w'' S'' F n G u))
   ·rw[if_neg (by simp[eH,f,H,U])]
    have V:b=!want:=by cases b<;>cases want<;>simp_all
    exact nxt .any undef w' S' (c.2 V) (by simp[bB]) s.st (cG.refl _ _)
 ·rintro listed a' w' ⟨g,O',S',M,s,R⟩ r;exact Y O' S' a' w' (y _ O' S' M (fun i T=>first listed g r ops.size (af _) i T)) s ((cG.drew S.dom w).trans R)
 ·simp only[JA];exact bI nv sm
 ·have e:(fun i=>(jd ops.size false).getD i false)=fun _=>false:=by funext i;exact n0 _ _
  show P (fun i=>(jd ops.size false).getD i false) O S;rw[e];exact Z

end Go.Proofs.YtdobfmlmenaajaaGreatDoor
