/-
  Lemmas for NeighbourMembers.
-/
import Derived.Test.YtdobfmlmenaajaaGreatDoorN11
import Derived.LoopN
import Derived.Scope
namespace Go.Proofs.YtdobfmlmenaajaaGreatDoor
open Go.RowKit
open _root_.Array renaming getElem?_eq_getElem→aB,getD_eq_getD_getElem?→aF,getElem?_eq_some_iff→bM,getElem?_setIfInBounds_ne→bZ,replicate→im,getElem?_setIfInBounds→nR
open Below renaming heap_alloc→mA
open _root_.Bool renaming and_eq_true→au,false_eq_true→aN,or_eq_true→cW,not_eq_true'→eO
open _root_.List renaming all_eq_true→az,range→cf,mem_of_getElem?→cq,getD→cB,getElem?_eq_some_iff→cG,length_take→dX,getElem?_take→er,mem_map→eY,drop_of_length_le→fy,mem_filterMap→gT,drop_eq_getElem_cons→ij,nil_append→kN,countP_le_length→mc
open _root_.Nat renaming le_refl→ah,lt_or_ge→aE,sub_self→bP,le_trans→bW,lt_trichotomy→dJ
open _root_.Option renaming none→ac
open _root_.Or renaming inr→bD,inl→bH
set_option maxHeartbeats 6400000
set_option maxRecDepth 4096
set_option linter.all false
def Gl(l:List Oper)(q j:Nat):Bool:=decide (j<q)&&(match l[j]? with
 | some o=>Ax o.op&&(match o.dst with
  | some d=>(l.zipIdx.drop q).all (fun p=>(match p.1.dst with
    | some t=>!(jx o).contains t&&decide (t≠d)
    | ac=>true)&&(!(jx p.1).contains d||(aft p.1).contains j))
  | _=>false)
 | ac=>false)
def uN:List (List Nat)->List Nat
 | []=>[]
 | js::_=>js
def Gj:List (List Nat)->List (List Nat)
 | []=>[]
 | [js]=>[js]
 | _::r=>r
def Et(jss:List (List Nat)):Nat->List (List Nat)
 | 0=>jss
 | k+1=>Gj (Et jss k)
def xQ(ops:Array Oper)(q:Nat)(jss:List (List Nat)):Bool :=
 let l:=ops.toList
 l.all (fun o=>o.guard.isNone) &&
 l.zipIdx.all (fun p=>(aft p.1).all (fun k=>decide (k<p.2))) &&
 (l.take q).zipIdx.all (fun p=>(l.take q).zipIdx.all (fun r=>match r.1.dst with
  | some t=>!(jx p.1).contains t||(decide (r.2<p.2)&&(aft p.1).contains r.2)
  | ac=>true)) &&
 (l.take q).zipIdx.all (fun p=>(l.take q).zipIdx.all (fun r=>decide (p.2=r.2)||p.1.dst.isNone||p.1.dst != r.1.dst)) &&
 (l.zipIdx.drop q).all (fun p=>(cf p.2).all (fun j=>(aft p.1).contains j||((uN (Et jss (p.2-q))).contains j&&Gl l q j)||nS ops 12 j p.2)) &&
 decide (q<=l.length)
def ka(ops:List Oper)(O:Tm)(S:St):List Nat->Prop
 | []=>True
 | j::js=>(match ops[j]? with
  | some o=>(match o.dst with
   | some d=>wa o O S (O d)
   | ac=>False)
  | ac=>False)/\ka ops O S js
def Fq(ops:List Oper):List (List Nat)->List Oper->Tm->St->(Tm->St->Prop)->Prop
 | _,[],O,S,K=>K O S
 | jss,o::l,O,S,K=>vF o O S (fun z S'=>ka ops (O.put o.dst z) S' (uN jss)/\Fq ops (Gj jss) l (O.put o.dst z) S' K)
def awG(ops:Array Oper)(O:Tm)(S:St)(K:Tm->St->Prop):Prop:=∃q jss,xQ ops q jss=true /\
 zh (ops.toList.take q) O S [] (fun O' pend=>pend.isEmpty=true/\Fq ops.toList jss (ops.toList.drop q) O' S K)
theorem ns{ops:List Oper}{O:Tm}{S:St}:∀{js:List Nat},ka ops O S js->∀j∈js,∃o d,ops[j]? = some o/\o.dst=some d/\wa o O S (O d)
 | [],_,j,hj=>by cases hj
 | i::js,h,j,hj=>by
  simp only[ka]at h;rcases List.mem_cons.1 hj with rfl|hj
  ·have h1:=h.1
   cases ho:ops[j]? with
   | none=>rw[ho]at h1;exact h1.elim
   | some o =>
    rw[ho]at h1;simp only at h1
    cases hd:o.dst with
    | none=>rw[hd]at h1;exact h1.elim
    | some d=>rw[hd]at h1;exact⟨o,d,rfl,hd,h1⟩
  ·exact ns h.2 j hj
structure vR(ops:Array Oper)(q j:Nat)(o:Oper)(d:Nat):Prop where
 lt:j<q
 op:ops[j]? = some o
 dst:o.dst=some d
 pure:Ax o.op=true
 tail:∀(i:Nat) (p:Oper),q<=i->ops[i]? = some p->(∀t,p.dst=some t->t ∉ jx o/\t≠d)/\(d∈jx p->j∈aft p)
structure GOK(ops:Array Oper)(q:Nat)(jss:List (List Nat)):Prop where
 guard:∀(i:Nat) (o:Oper),ops[i]? = some o->o.guard=ac
 back:∀(i:Nat) (o:Oper),ops[i]? = some o->∀k∈aft o,k<i
 reads:∀(i:Nat) (o:Oper) (j:Nat) (p:Oper) (t:Nat),i<q->j<q->ops[i]? = some o->ops[j]? = some p->p.dst=some t->t∈jx o->j<i/\j∈aft o
 apart:∀(i:Nat) (o:Oper) (j:Nat) (p:Oper) (t:Nat),i<q->j<q->ops[i]? = some o->ops[j]? = some p->o.dst=some t->p.dst=some t->i=j
 tail:∀(i:Nat) (o:Oper),q<=i->ops[i]? = some o->∀j,j<i->(j∈aft o∨nS ops 12 j i=true)∨(j∈uN (Et jss (i-q))/\∃p d,vR ops q j p d)
 le:q<=ops.size
theorem uW{ops:Array Oper}{q:Nat}{jss:List (List Nat)}(h:xQ ops q jss=true):GOK ops q jss:=by
 simp only[xQ,au,decide_eq_true_eq]at h;obtain⟨⟨⟨⟨⟨h1,h2⟩,h3⟩,h4⟩,h5⟩,h6⟩:=h;have gl:∀{i:Nat} {o:Oper},ops[i]? = some o->ops.toList[i]? = some o:=fun h=>by simpa using h
 have tk:∀{i:Nat} {o:Oper},i<q->ops[i]? = some o->(o,i)∈(ops.toList.take q).zipIdx:=fun hi ho=>fJ (by rw[er,if_pos hi];exact gl ho)
 have dm:∀{i:Nat} {o:Oper},q<=i->ops[i]? = some o->(o,i)∈ops.toList.zipIdx.drop q:=fun {i o} hi ho=>by
  rw[List.mem_iff_getElem?];exact⟨i-q,by rw[List.getElem?_drop,show q+(i-q)=i by omega,List.getElem?_zipIdx,gl ho];simp⟩
 refine⟨fun i o ho=>?_,fun i o ho k hk=>?_,fun i o j p t hi hj ho hp ht hl=>?_,fun i o j p t hi hj ho hp ht hpt=>?_,fun i o hi ho j hj=>?_,by simpa using h6⟩
 ·have:=az.1 h1 o (cq (gl ho));simpa using this
 ·have:=az.1 (az.1 h2 (o,i) (fJ (gl ho))) k hk;simpa using this
 ·have:=az.1 (az.1 h3 (o,i) (tk hi ho)) (p,j) (tk hj hp);simp only[ht]at this;simp only[cW,eO,au,decide_eq_true_eq]at this;rcases this with h7|h7
  ·simp at h7;exact absurd hl h7
  ·exact⟨h7.1,by simpa using h7.2⟩
 ·have:=az.1 (az.1 h4 (o,i) (tk hi ho)) (p,j) (tk hj hp);simp only[ht,hpt]at this;simpa using this
 ·have:=az.1 (az.1 h5 (o,i) (dm hi ho)) j (by simpa using hj)
  simp only[cW]at this;rcases this with (h7|h7)|h7
  ·exact bH (bH (by simpa using h7))
  ·right;rw[au]at h7;obtain⟨hjs,h7⟩:=h7;refine⟨by simpa using hjs,?_⟩
   simp only[Gl,au,decide_eq_true_eq]at h7;obtain⟨hjq,h7⟩:=h7
   cases hoj:ops.toList[j]? with
   | none=>rw[hoj]at h7;cases h7
   | some oj =>
    rw[hoj]at h7;simp only[au]at h7;obtain⟨hqo,h7⟩:=h7
    cases hds:oj.dst with
    | none=>rw[hds]at h7;cases h7
    | some d =>
     rw[hds]at h7;refine⟨oj,d,hjq,by simpa using hoj,hds,hqo,fun i' p hi' hp=>?_⟩
     have h8:=az.1 h7 (p,i') (dm hi' hp);simp only[au,cW,eO]at h8;refine⟨fun t ht=>?_,fun hd=>?_⟩
     ·have h9:=h8.1;rw[ht]at h9;simp only[au,eO,decide_eq_true_eq]at h9;refine⟨fun hm=>?_,h9.2⟩;have h10:=h9.1;simp at h10;exact h10 hm
     ·rcases h8.2 with h9|h9
      ·simp at h9;exact absurd hd h9
      ·simpa using h9
  ·exact bH (bD h7)
def nV(ops:Array Oper)(q:Nat)(listed:Array Bool)(t:Nat):Prop:=∃j o,listed.getD j true=false/\vR ops q j o t
structure jS(ops:Array Oper)(q:Nat)(jss:List (List Nat))(K:Tm->St->Prop)(D:Nat->Prop)(N:Nat)(w0:World)(listed:Array Bool)(a:Act)(w:World):Prop where
 ex:∃k O S,q<=k/\k<=ops.size/\listed.size=ops.size/\(∀i,q<=i->i<ops.size->(listed.getD i true=true↔i<k)) /\
  (∀j,j<q->listed.getD j true=false->∃o d,vR ops q j o d/\wa o O S (O d))/\Fq ops.toList (Et jss (k-q)) (ops.toList.drop k) O S K /\
  a.defers=[]/\a.tmps.size=N/\dz w S/\(∀t,¬nV ops q listed t->a8 w S.dom (O t) (a.tmps.getD t undef))/\co D S.dom w0 w
theorem EO{ops:Array Oper}{N id:Nat}{Q:Exit->Act->World->Prop}{K:Tm->St->Prop}{O:Tm}{S:St}{a:Act}{w:World}(h:awG ops O S K)(hr:RT O S N a w)(hd:pB N ops.toList=true)
  (hq:∀O' S' a' w',K O' S'->RT O' S' N a' w'->co S.dom S'.dom w w'->Q .normal a' w'):(Code.region id ops true).wp Tryz.prog Q a w:=by
 classical
 obtain⟨q,jss,hok,hH⟩:=h;have D:=uW hok;have hlen:(ops.toList.take q).length=q:=by rw[dX];have:=D.le;simp;omega
 obtain⟨Os,al,e0,hK,hi⟩:=mS _ _ _ _ _ hH;rw[hlen]at hK;obtain⟨hpe,hK⟩:=hK;have hi':∀(i:Nat) (o:Oper),i<q->ops[i]? = some o->∃z,wa o (Os i) S z/\Os (i+1)=(Os i).put o.dst z:=by
  intro i o hiq ho;have ho':(ops.toList.take q)[i]? = some o:=by rw[er,if_pos hiq];simpa using ho
  rcases hi i o ho' with⟨t,d,X,h1,h2,h3,h4,h5⟩|⟨_,h5⟩
  ·exfalso;have:(d,X)∈([]:List (Nat×dn))++(cf q).filterMap (fun i=>(al i).bind fun X=>((ops.toList.take q)[i]?).bind fun o=>o.dst.map fun d=>(d,X)):=by
    rw[kN,gT];exact⟨i,by simpa using hiq,by rw[h4,ho'];simp[h2]⟩
   rw[List.isEmpty_iff.1 hpe]at this
   cases this
  ·exact h5
 have step_ne:∀i o t,i<q->ops[i]? = some o->o.dst≠some t->Os (i+1) t=Os i t:=by
  intro i o t hiq ho ht;obtain⟨z,_,h5⟩:=hi' i o hiq ho;rw[h5]
  cases hdo:o.dst with
  | none=>rw[Tm.put_eq]
  | some d=>simp only[Tm.put_eq];rw[if_neg];intro e;exact ht (by rw[hdo,e])
 have stable:∀t k i,i<=k->k<=q->(∀j o,i<=j->j<k->ops[j]? = some o->o.dst≠some t)->Os k t=Os i t:=by
  intro t k
  induction k with
  | zero=>intro i h1 _ _;rw[show i=0 by omega]
  | succ k ih =>
   intro i h1 h2 h3;by_cases e:i=k+1
   ·rw[e]
   ·have hk:k<ops.size:=by have:=D.le;omega
    rw[step_ne k ops[k] t om (aB hk) (h3 k _ om om (aB hk))];exact ih i om om (fun j o hj1 hj2 ho=>h3 j o hj1 om ho)
 have w0s:dz w.drew S:=hr.st.drew;have r0:RT O S N a w.drew:=⟨hr.defers,hr.size,fun t=>a8.grow hr.st.noU (co.drew _ w) _ _ (hr.tm t),w0s⟩;have dstN:∀(i:Nat) (o:Oper) (d:Nat),ops[i]? = some o->o.dst=some d->d<N:=by
  intro i o d ho hdd;have:=az.1 hd o (cq (by simpa using ho:ops.toList[i]? = some o))
  rw[hdd]at this;simpa using this
 have HT:∀listed a' w',ld ops q S (Os q) N w.drew listed a' w'->(∀j,j<q->listed.getD j true=false->∃o d,vR ops q j o d)->jS ops q jss K S.dom N w.drew listed a' w':=by
  intro listed a' w' H hall;refine⟨q,Os q,S,ah _,D.le,H.size,fun i hi1 hi2=>?_,fun j hj hjl=>?_,by rw[bP];exact hK,H.defers,H.tsize,w0s.frozen H.gr,fun t ht=>?_,H.gr.any _⟩
  ·rw[H.tailU i hi1 hi2];constructor
   ·intro h;cases h
   ·intro h;omega
  ·obtain⟨o,d,hf⟩:=hall j hj hjl;refine⟨o,d,hf,?_⟩;obtain⟨z,hz,hO⟩:=hi' j o hj hf.op;have e1:Os q d=z:=by
    rw[stable d q (j+1) om (ah _) (fun i p hi1 hi2 hp hpd=>by
     have:=D.apart j o i p d hj hi2 hf.op hp hf.dst hpd;omega),hO,hf.dst]
    simp[Tm.put_eq]
   rw[e1];refine ko (i9 fun t ht=>?_) hz;rw[stable t q j om (ah _) (fun i p hi1 hi2 hp hpt=>by
    have:=(D.reads j o i p t hj hi2 hf.op hp hpt ht).1;omega)]
  ·refine H.tm t (fun j o hj ho hot=>?_)
   cases hv:listed.getD j false with
   | true=>rfl
   | false =>
    have hj2:listed.getD j true=false:=by
     have hjs:j<listed.size:=by rw[H.size];exact(bM.1 ho).1
     rw[aF,aB hjs]at hv ⊢;exact hv
    obtain⟨o',d,hf⟩:=hall j hj hj2;have ho':=hf.op;rw[ho]at ho';cases ho';have hdst:=hf.dst;rw[hot]at hdst;cases hdst;exact absurd ⟨j,o,hj2,hf⟩ ht
 have tailStep:∀listed a' w' i,jS ops q jss K S.dom N w.drew listed a' w'->fE ops listed->i∈Region.ready .any ops listed->wpOp Tryz.prog ops Q i (fun a'' w''=>ld ops q S (Os q) N w.drew (listed.setIfInBounds i true) a'' w''∨jS ops q jss K S.dom N w.drew (listed.setIfInBounds i true) a'' w'') a' w':=by
  intro listed a' w' i T hcl hi;obtain⟨k,O',S',hk1,hk2,hsz,hl,hfr,hL,hdef,hts,hrs,htm,hG⟩:=T.ex;obtain⟨o,ho,hun,haft⟩:=df hi;have hio:i<ops.size:=(bM.1 ho).1;have hils:i<listed.size:=by omega
  unfold wpOp;simp only[ho];rw[if_pos (by simp[Region.wanted,D.guard i o ho])]
  refine bH ?_;rcases aE i q with hiq|hiq
  ·
   obtain⟨o',d,hf,hok'⟩:=hfr i hiq hun;have ho':=hf.op;rw[ho]at ho';cases ho';have hdst:=hf.dst
   let Om:Tm:=fun t=>if nV ops q listed t then .any else O' t
   have hRm:RT Om S' N a' w':=⟨hdef,hts,fun t=>by
    simp only[Om];split
    ·simp[a8]
    ·rename_i hc;exact htm t hc,hrs⟩
   have hLm:=ko (O':=Om) (i9 fun t ht=>by
    simp only[Om];rw[if_neg];rintro⟨j,oj,hjl,hfj⟩;have:=haft j (D.reads i o j oj t hiq hfj.lt ho hfj.op hfj.dst ht).2;rw[eK this]at hjl;cases hjl) hok'
   refine lw hLm hRm (fun v w'' hv hg=>bD ⟨k,O',S',hk1,hk2,by simp[hsz],fun j hj1 hj2=>?_,fun j hj1 hj2=>?_,hL,by rw[gH];exact hdef,by rw[iZ];exact hts,hrs.frozen hg,fun t ht=>?_,hG.trans (hg.any _)⟩)
   ·rw[cb _ _ _ _ hils,if_neg om];exact hl j hj1 hj2
   ·rw[cb _ _ _ _ hils]at hj2;by_cases e:j=i
    ·rw[if_pos e]at hj2;cases hj2
    ·rw[if_neg e]at hj2;exact hfr j hj1 hj2
   ·rw[hdst];by_cases e:t=d
    ·subst e;rw[put_eq (by rw[hts];exact dstN i o t ho hdst)];exact hv
    ·rw[iU (by intro e2;cases e2;exact e rfl)]
     refine a8.grow hrs.noU (hg.any _) _ _ (htm t ?_);rintro⟨j,oj,hjl,hfj⟩;refine ht ⟨j,oj,?_,hfj⟩;rw[cb _ _ _ _ hils,if_neg]
     ·exact hjl
     ·rintro rfl;have hoj:=hfj.op;rw[ho]at hoj;cases hoj;have hdj:=hfj.dst;rw[hdst]at hdj;cases hdj;exact e rfl
  ·have hik:i=k:=by
    rcases dJ i k with h1|h1|h1
    ·rw[(hl i hiq hio).2 h1]at hun;cases hun
    ·exact h1
    ·rcases D.tail i o hiq ho k h1 with h2|⟨_,p,d,h2⟩
     ·have hk3:listed.getD k false=true:=h2.elim (haft k) (eB hcl 12 k i o ho haft);have:=(hl k om om).1 (eK hk3);omega
     ·have:=h2.lt;omega
   subst hik;have hdrop:ops.toList.drop i=o::ops.toList.drop (i+1):=by
    have h1:ops.toList[i]? = some o:=by simpa using ho
    rw[ij (by simpa using hio)]
    congr 1;exact(cG.1 h1).2
   rw[hdrop]at hL;unfold Fq at hL
   let Om:Tm:=fun t=>if nV ops q listed t then .any else O' t
   have hRm:RT Om S' N a' w':=⟨hdef,hts,fun t=>by
    simp only[Om];split
    ·simp[a8]
    ·rename_i hc;exact htm t hc,hrs⟩
   have hLm:=pj (O':=Om) (i9 fun t ht=>by
    simp only[Om];rw[if_neg];rintro⟨j,y,hjl,hfj⟩;have:=haft j ((hfj.tail i o hiq ho).2 ht);rw[eK this]at hjl;cases hjl) hL
   refine kg hLm hRm (fun z v w'' S'' hz hv hs hg=>bD ⟨i+1,O'.put o.dst z,S'',by omega,by omega,by simp[hsz],fun j hj1 hj2=>?_,fun j hj1 hj2=>?_,by rw[show i+1-q=(i-q)+1 by omega];exact hz.2,by rw[gH];exact hdef,by rw[iZ];exact hts,hs,fun t ht=>?_,hG.trans hg⟩)
   ·rw[cb _ _ _ _ hils];by_cases e:j=i
    ·rw[if_pos e];simp;omega
    ·rw[if_neg e,hl j hj1 hj2];omega
   ·rw[cb _ _ _ _ hils,if_neg om]at hj2;obtain⟨p,d,hf,_⟩:=hfr j hj1 hj2;refine⟨p,d,hf,?_⟩;have hjs:j∈uN (Et jss (i-q)):=by
     rcases D.tail i o hiq ho j om with h1|h1
     ·rw[eK (h1.elim (haft j) (eB hcl 12 j i o ho haft))]at hj2;cases hj2
     ·exact h1.1
    obtain⟨p',d',h1,h2,h3⟩:=ns hz.1 j hjs;have h4:ops.toList[j]? = some p:=by simpa using hf.op
    rw[h4]at h1;cases h1;have h5:=hf.dst;rw[h2]at h5;cases h5;exact h3
   ·have hlate:¬nV ops q listed t:=by
     rintro⟨j,y,hjl,hfj⟩;refine ht ⟨j,y,?_,hfj⟩;rw[cb _ _ _ _ hils,if_neg]
     ·exact hjl
     ·have:=hfj.lt;omega
    by_cases e:o.dst=some t
    ·rw[e,put_eq (by rw[hts];exact dstN i o t ho e)]
     rw[show(O'.put (some t) z) t=z by simp[Tm.put_eq]];exact hv
    ·rw[iU e];have hold:=a8.grow hrs.noU hg _ _ (htm t hlate)
     cases hdo:o.dst with
     | none=>rw[td];exact hold
     | some e'=>rw[mK (fun e2=>e (by rw[hdo,e2]))];exact hold
 have headStep:∀listed a' w' i,ld ops q S (Os q) N w.drew listed a' w'->fE ops listed->i∈Region.ready .any ops listed->wpOp Tryz.prog ops Q i (fun a'' w''=>ld ops q S (Os q) N w.drew (listed.setIfInBounds i true) a'' w''∨jS ops q jss K S.dom N w.drew (listed.setIfInBounds i true) a'' w'') a' w':=by
  intro listed a' w' i H hcl hi;obtain⟨o,ho,hun,haft⟩:=df hi;have hio:i<ops.size:=(bM.1 ho).1;have hils:i<listed.size:=by rw[H.size];exact hio
  rcases aE i q with hiq|hiq
  ·have hset:∀j d,(listed.setIfInBounds i true).getD j d=if j=i then true else listed.getD j d:=fun j d=>cb _ _ _ _ hils
   have hS:dz w' S:=w0s.frozen H.gr;obtain⟨z,hz,hO⟩:=hi' i o hiq ho
   let Oe:Tm:=fun t=>if (∀(j:Nat) (p:Oper),j<q->ops[j]? = some p->p.dst=some t->listed.getD j false=true)then Os q t else .any
   have hRe:RT Oe S N a' w':=⟨H.defers,H.tsize,fun t=>by
    simp only[Oe];split
    ·rename_i hc;exact H.tm t hc
    ·simp[a8],hS⟩
   have hze:wa o Oe S z:=ko (i9 fun t ht=>by
    have hc:∀(j:Nat) (p:Oper),j<q->ops[j]? = some p->p.dst=some t->listed.getD j false=true:=fun j p hj hp hpt =>
     haft j (D.reads i o j p t hiq hj ho hp hpt ht).2
    simp only[Oe];rw[if_pos hc,stable t q i om (ah _) (fun j p hj1 hj2 hp hpt=>by
     have:=(D.reads i o j p t hiq hj2 ho hp hpt ht).1;omega)]) hz
   unfold wpOp;simp only[ho];rw[if_pos (by simp[Region.wanted,D.guard i o ho])]
   refine bH (lw hze hRe (fun v w'' hv hg=>bH ⟨by simp[H.size],fun j hj1 hj2=>?_,by rw[gH];exact H.defers,by rw[iZ];exact H.tsize,H.gr.trans hg,fun t ht=>?_⟩))
   ·rw[hset,if_neg om];exact H.tailU j hj1 hj2
   ·by_cases e:o.dst=some t
    ·rw[e,put_eq (by rw[H.tsize];exact dstN i o t ho e)]
     have:Os q t=z:=by
      rw[stable t q (i+1) om (ah _) (fun j p hj1 hj2 hp hpd=>by
       have:=D.apart i o j p t hiq hj2 ho hp e hpd;omega),hO,e]
      simp[Tm.put_eq]
     rw[this];exact hv
    ·rw[iU e];refine a8.grow hS.noU (hg.any _) _ _ (H.tm t (fun j p hj hp hpt=>?_));have:=ht j p hj hp hpt;rw[hset]at this;by_cases e2:j=i
     ·subst e2;rw[ho]at hp;cases hp;exact absurd hpt e
     ·rw[if_neg e2]at this;exact this
  ·refine tailStep listed a' w' i (HT listed a' w' H (fun j hj hjl=>?_)) hcl hi;rcases D.tail i o hiq ho j om with h1|h1
   ·rw[eK (h1.elim (haft j) (eB hcl 12 j i o ho haft))]at hjl;cases hjl
   ·exact h1.2
 have first:∀listed,listed.size=ops.size->Region.ready .any ops listed=[]->∀m,m<=ops.size->∀j,j<m->listed.getD j false=true:=by
  intro listed hsz hre m
  induction m with
  | zero=>intro _ j hj;omega
  | succ m ih =>
   intro hm j hj;by_cases e:j<m
   ·exact ih om j e
   ·obtain rfl:j=m:=by omega
    have hjo:j<ops.size:=by omega
    cases hv:listed.getD j false with
    | true=>rfl
    | false =>
     have hj2:listed.getD j true=false:=by
      rw[aF,aB om]at hv ⊢;exact hv
     have:j∈Region.ready .any ops listed:=ot (aB hjo) hj2 (fun k hk=>ih om k (D.back j _ (aB hjo) k hk));rw[hre]at this;cases this
 refine wp_region_any (by kernel_rfl) (iN (fun listed a' w'=>fE ops listed/\(ld ops q S (Os q) N w.drew listed a' w'∨jS ops q jss K S.dom N w.drew listed a' w')) ?_ ?_ ops.size _ a w.drew ?_ ⟨fun i o ho h=>?_,bH ?_⟩)
 ·intro listed a' w' i hI hi;obtain⟨hcl,hI⟩:=hI;have hcl':fE ops (listed.setIfInBounds i true):=by
   obtain⟨o,ho,hun,haft⟩:=df hi;have hgo:∀k,listed.getD k false=true->(listed.setIfInBounds i true).getD k false=true:=fun k hk=>by
    rw[aF]at hk ⊢;rw[nR];split
    ·split<;>simp_all
    ·exact hk
   intro j p hp hj k hk;by_cases e:j=i
   ·subst e;rw[ho]at hp;cases hp;exact hgo k (haft k hk)
   ·refine hgo k (hcl j p hp ?_ k hk);rw[aF]at hj ⊢
    rwa [bZ (Ne.symm e)]at hj
  have e:(fun a'' w''=>fE ops (listed.setIfInBounds i true)/\(ld ops q S (Os q) N w.drew (listed.setIfInBounds i true) a'' w''∨jS ops q jss K S.dom N w.drew (listed.setIfInBounds i true) a'' w''))=fun a'' w''=>(ld ops q S (Os q) N w.drew (listed.setIfInBounds i true) a'' w''∨jS ops q jss K S.dom N w.drew (listed.setIfInBounds i true) a'' w''):=by
   funext a'' w'';simp[hcl']
  show wpOp Tryz.prog ops Q i (fun a'' w''=>fE ops (listed.setIfInBounds i true)/\(ld ops q S (Os q) N w.drew (listed.setIfInBounds i true) a'' w''∨jS ops q jss K S.dom N w.drew (listed.setIfInBounds i true) a'' w'')) a' w';rw[e];rcases hI with H|T
  ·exact headStep listed a' w' i H hcl hi
  ·exact tailStep listed a' w' i T hcl hi
 ·rintro listed a' w' ⟨_,hI⟩ hre;have fin:jS ops q jss K S.dom N w.drew listed a' w'->Q .normal a' w':=by
   intro T;obtain⟨k,O',S',hk1,hk2,hsz,hl,hfr,hL,hdef,hts,hrs,htm,hG⟩:=T.ex;have hall:=first listed hsz hre ops.size (ah _)
   have hk:k=ops.size:=by
    rcases aE k ops.size with h1|h1
    ·have:=(hl k hk1 h1).1 (eK (hall k h1));omega
    ·omega
   rw[hk,fy (by simp)]at hL
   refine hq O' S' a' w' hL ⟨hdef,hts,fun t=>htm t ?_,hrs⟩ ((co.drew S.dom w).trans hG);rintro⟨j,y,hjl,hfj⟩;rw[eK (hall j (by have:=hfj.lt;have:=D.le;omega))]at hjl;cases hjl
  rcases hI with H|T
  ·refine fin (HT listed a' w' H (fun j hj hjl=>?_));rw[eK (first listed H.size hre ops.size (ah _) j (by have:=D.le;omega))]at hjl;cases hjl
  ·exact fin T
 ·simp only[Ia];exact bW mc (by simp)
 ·rw[mJ]at h;cases h
 ·refine⟨by simp,fun i _ hi2=>yD hi2,hr.defers,hr.size,co.refl _ _,fun t ht=>?_⟩
  have hno:∀(j:Nat) (o:Oper),j<q->ops[j]? = some o->o.dst≠some t:=by
   intro j o hj ho hdt;have:=ht j o hj ho hdt;rw[mJ]at this;cases this
  rw[stable t q 0 om (ah _) (fun j o _ hj ho=>hno j o hj ho),e0];exact r0.tm t
def awA(ops:Array Oper)(O:Tm)(S:St)(K:Tm->St->Prop):Prop:=∃q jss,xQ ops q jss=true /\
 zh (ops.toList.take q) O S [] (fun O' pend=>lM pend (qG (ky (ops.toList.take q)) O') S (fun O S=>ka ops.toList O S (uN jss)/\Fq ops.toList jss (ops.toList.drop q) O S K))
theorem qQ{P:Nat->Prop}:∀(pend:List (Nat×dn)) (O0:Tm) {O1:Tm} (S:St) (K:Tm->St->Prop),lM pend O0 S K->(∀t,¬P t->O1 t=O0 t)->lM pend O1 S (fun O S=>∃O',(∀t,¬P t->O t=O' t)/\K O' S)
 | [],O0,O1,S,K,h,he=>by simp only[lM]at h ⊢;exact⟨O0,he,h⟩
 | (d,X)::r,O0,O1,S,K,h,he=>by
  simp only[lM]at h ⊢;intro b hb;refine qQ r _ _ K (h b hb) (fun t ht=>?_);simp only[Tm.put_eq];split
  ·rfl
  ·exact he t ht
theorem ES{ops:Array Oper}{N id:Nat}{Q:Exit->Act->World->Prop}{K:Tm->St->Prop}{O:Tm}{S:St}{a:Act}{w:World}(h:awA ops O S K)(hr:RT O S N a w)(hd:pB N ops.toList=true)
  (hq:∀O' S' a' w',K O' S'->RT O' S' N a' w'->co S.dom S'.dom w w'->Q .normal a' w'):(Code.region id ops true).wp Tryz.prog Q a w:=by
 classical
 obtain⟨q,jss,hok,hH⟩:=h;have D:=uW hok;have hlen:(ops.toList.take q).length=q:=by rw[dX];have:=D.le;simp;omega
 obtain⟨Os,al,e0,hK,hi⟩:=mS _ _ _ _ _ hH;rw[hlen]at hK;have hi':∀(i:Nat) (o:Oper),i<q->ops[i]? = some o->(∃t d X,o.op=.alloc t/\o.dst=some d/\kf t=some X/\al i=some X/\Os (i+1)=(Os i).put (some d) .any) ∨
   (al i=ac/\∃z,wa o (Os i) S z/\Os (i+1)=(Os i).put o.dst z):=fun i o hiq ho=>hi i o (by rw[er,if_pos hiq];simpa using ho)
 have step_ne:∀i o t,i<q->ops[i]? = some o->o.dst≠some t->Os (i+1) t=Os i t:=by
  intro i o t hiq ho ht;rcases hi' i o hiq ho with⟨_,d,X,_,h2,_,_,h5⟩|⟨_,z,_,h5⟩
  ·rw[h5];simp only[Tm.put_eq];rw[if_neg];intro e;exact ht (by rw[h2,e])
  ·rw[h5]
   cases hdo:o.dst with
   | none=>rw[Tm.put_eq]
   | some d=>simp only[Tm.put_eq];rw[if_neg];intro e;exact ht (by rw[hdo,e])
 have stable:∀t k i,i<=k->k<=q->(∀j o,i<=j->j<k->ops[j]? = some o->o.dst≠some t)->Os k t=Os i t:=by
  intro t k
  induction k with
  | zero=>intro i h1 _ _;rw[show i=0 by omega]
  | succ k ih =>
   intro i h1 h2 h3;by_cases e:i=k+1
   ·rw[e]
   ·have hk:k<ops.size:=by have:=D.le;omega
    rw[step_ne k ops[k] t om (aB hk) (h3 k _ om om (aB hk))];exact ih i om om (fun j o hj1 hj2 ho=>h3 j o hj1 om ho)
 have w0s:dz w.drew S:=hr.st.drew;have r0:RT O S N a w.drew:=⟨hr.defers,hr.size,fun t=>a8.grow hr.st.noU (co.drew _ w) _ _ (hr.tm t),w0s⟩;have dstN:∀(i:Nat) (o:Oper) (d:Nat),ops[i]? = some o->o.dst=some d->d<N:=by
  intro i o d ho hdd;have:=az.1 hd o (cq (by simpa using ho:ops.toList[i]? = some o))
  rw[hdd]at this;simpa using this
 have HT:∀listed a' w',oa ops q S (Os q) al N a w.drew listed a' w'->(∀j,j<q->listed.getD j true=false->j∈uN jss/\∃o d,vR ops q j o d)->jS ops q jss K S.dom N w.drew listed a' w':=by
  intro listed a' w' H hall;have hlist:∀(j:Nat) (o:Oper),j<q->ops[j]? = some o->listed.getD j true≠false->listed.getD j false=true:=by
   intro j o hj ho hn;have hjs:j<listed.size:=by rw[H.size];exact(bM.1 ho).1
   rw[aF,aB hjs]at hn ⊢;simpa using hn
  have halloc:∀(i:Nat) (o:Oper) (X:dn),i<q->ops[i]? = some o->al i=some X->listed.getD i false=true:=by
   intro i o X hiq ho hX;refine hlist i o hiq ho (fun hun=>?_);obtain⟨_,o',d,hf⟩:=hall i hiq hun;have ho':=hf.op;rw[ho]at ho';cases ho';rcases hi' i o hiq ho with⟨t,d,Y,h1,_⟩|⟨h1,_⟩
   ·have:=hf.pure;rw[h1]at this;simp[Ax]at this
   ·rw[hX]at h1;cases h1
  have hS:dz w' S:=w0s.frozen H.gr;have htm:∀t,¬nV ops q listed t->a8 w' S.dom (Os q t) (a'.tmps.getD t undef):=fun t ht=>H.tm t (fun j o hj ho hot=>by
   refine hlist j o hj ho (fun hun=>?_);obtain⟨_,o',d,hf⟩:=hall j hj hun;have ho':=hf.op;rw[ho]at ho';cases ho';have hdst:=hf.dst;rw[hot]at hdst;cases hdst;exact ht ⟨j,o,hun,hf⟩)
  suffices hsuf:∃O' S',(ka ops.toList O' S' (uN jss)/\Fq ops.toList jss (ops.toList.drop q) O' S' K)/\dz w' S'/\(∀t,¬nV ops q listed t->a8 w' S'.dom (O' t) (a'.tmps.getD t undef))/\co S.dom S'.dom w.drew w' by
   obtain⟨O',S',⟨g1,g2⟩,g3,g4,g5⟩:=hsuf;refine⟨q,O',S',ah _,D.le,H.size,fun i hi1 hi2=>?_,fun j hj hjl=>?_,by rw[bP];exact g2,H.defers,H.tsize,g3,g4,g5⟩
   ·rw[H.tailU i hi1 hi2];constructor
    ·intro h;cases h
    ·intro h;omega
   ·obtain⟨hjs,o,d,hf⟩:=hall j hj hjl;refine⟨o,d,hf,?_⟩;obtain⟨p',d',h1,h2,h3⟩:=ns g1 j hjs;have h4:ops.toList[j]? = some o:=by simpa using hf.op
    rw[h4]at h1;cases h1;have h5:=hf.dst;rw[h2]at h5;cases h5;exact h3
  generalize hpe:(([]:List (Nat×dn))++(cf q).filterMap (fun i=>(al i).bind fun X=>((ops.toList.take q)[i]?).bind fun o=>o.dst.map fun d=>(d,X)))=pend at hK;have hK2:=qQ (O1:=fun t=>if nV ops q listed t then .any else qG (ky (ops.toList.take q)) (Os q) t) (P:=nV ops q listed) pend _ S _ hK (fun t ht=>by simp only[if_neg ht])
  clear hK;have hK:=hK2;obtain⟨B,hB1,hB2⟩:=H.news
  let idx:=(cf q).filter (fun i=>((al i).bind fun X=>((ops.toList.take q)[i]?).bind fun o=>o.dst.map fun d=>(d,X)).isSome)
  let f:Nat->Nat×dn×Nat:=fun i=>match ((al i).bind fun X=>((ops.toList.take q)[i]?).bind fun o=>o.dst.map fun d=>(d,X))with
   | some (d,X)=>(d,X,B i)
   | ac=>(0,⟨0,0,0,fun _=>.any⟩,B i)
  have hidx:∀i∈idx,∃o X d,i<q/\ops[i]? = some o/\al i=some X/\o.dst=some d/\f i=(d,X,B i):=by
   intro i hii;simp only[idx,List.mem_filter,List.mem_range]at hii;obtain⟨h1,h2⟩:=hii;obtain⟨p,hp⟩:=Option.isSome_iff_exists.1 h2;have hf:f i=(p.1,p.2,B i):=by simp only[f,hp]
   simp only[Option.bind_eq_some_iff,Option.map_eq_some_iff]at hp;obtain⟨X,hX,o,ho,d,hd1,hd2⟩:=hp;rw[er,if_pos h1]at ho;refine⟨o,X,d,h1,by simpa using ho,hX,hd1,?_⟩
   rw[hf,<-hd2]
  have hpend:pend=(idx.map f).map fun x=>(x.1,x.2.1):=by
   rw[<-hpe,kN,List.map_map];simp only[idx];generalize cf q=rg
   induction rg with
   | nil=>rfl
   | cons i rg ih =>
    simp only[List.filterMap_cons,List.filter_cons]
    cases hc:((al i).bind fun X=>((ops.toList.take q)[i]?).bind fun o=>o.dst.map fun d=>(d,X))with
    | none=>simp only[Option.isSome_none,aN,if_false];exact ih
    | some p=>simp only[Option.isSome_some,if_true,List.map_cons];rw[<-ih];simp only[Function.comp,f,hc]
  rw[hpend]at hK
  let M:Nat->Prop:=fun b=>S.dom b∨w.drew.heap.size<=b
  have hnuM:Ma M w.drew:=by
   intro b hb cs ty fr hc;rcases hb with hb|hb
   ·exact w0s.noU b hb cs ty fr hc
   ·exact absurd (dE hc) om
  have up:∀x v,a8 w.drew S.dom x v->a8 w' M x v:=fun x v hx =>
   a8.grow hnuM (H.gr.any M) x v (a8.turn (M:=S.dom) (M':=M) (fun k hk hm=>by
    rcases hm with hm|hm
    ·exact hm
    ·omega) x v hx)
  have hres:=oK (a:=a') (w:=w') (N:=N) (B0:=w.drew.heap.size) (M:=M) (idx.map f) _ S hK
   (fun b X hX=>by
    obtain⟨cs,h1,h2,h3,h4⟩:=w0s b X hX;exact⟨cs,(H.gr.keep b (dE h1) (fun x=>x)).trans h1,h2,fun j hj=>by obtain⟨u,h5,h6⟩:=h3 j hj;exact⟨u,h5,up _ _ h6⟩,h4⟩)
   (fun t=>by
    by_cases hlt:nV ops q listed t
    ·simp only[if_pos hlt];simp[a8]
    simp only[if_neg hlt,qG];by_cases hin:(ky (ops.toList.take q)).contains t=true
    ·by_cases hmf:nY (Os q t)=true
     ·simp only[hmf,Bool.not_true,Bool.and_false,aN,if_false];exact nr hmf (htm t hlt)
     ·simp only[hin,hmf,Bool.not_false,Bool.and_self,if_true];simp[a8]
    ·simp only[hin,Bool.false_and,aN,if_false];have hno:∀(j:Nat) (o:Oper),j<q->ops[j]? = some o->o.dst≠some t:=by
      intro j o hj ho hdt;apply hin;simp only[ky,List.contains_iff_mem,gT];exact⟨o,cq (i:=j) (by rw[er,if_pos hj];simpa using ho),hdt⟩
     rw[H.old t hno,stable t q 0 om (ah _) (fun j o _ hj ho=>hno j o hj ho),e0];exact up _ _ (r0.tm t))
   (fun x hx=>by
    obtain⟨i,hii,rfl⟩:=eY.1 hx;obtain⟨o,X,d,h1,h2,h3,h4,h5⟩:=hidx i hii;rw[h5];obtain⟨g1,g2,g3⟩:=hB1 i o X d h1 h2 h3 h4 (halloc i _ _ h1 h2 h3);exact⟨g1,g3⟩)
   (by
    rw[List.map_map];refine nk (List.Pairwise.filter _ List.nodup_range) (fun i hii j hjj e=>?_);obtain⟨o,X,d,h1,h2,h3,h4,h5⟩:=hidx i hii;obtain⟨o',X',d',h1',h2',h3',h4',h5'⟩:=hidx j hjj;simp only[Function.comp,h5,h5']at e;exact hB2 i j h1 h1' (by rw[h3];rfl) (by rw[h3'];rfl) (halloc i _ _ h1 h2 h3) (halloc j _ _ h1' h2' h3') e)
   (fun x hx=>by
    obtain⟨i,hii,rfl⟩:=eY.1 hx;obtain⟨o,X,d,h1,h2,h3,h4,h5⟩:=hidx i hii;rw[h5];obtain⟨g1,g2,g3⟩:=hB1 i o X d h1 h2 h3 h4 (halloc i _ _ h1 h2 h3);exact⟨w0s.fresh g2,g2⟩)
  obtain⟨O',S',⟨O2,e2,k1⟩,k2,k3,k4⟩:=hres;have hdom:∀k,k<w'.heap.size->S'.dom k->M k:=fun k _ hk=>k4 k hk;refine⟨O2,S',k1,fun b X hX=>?_,fun t ht=>?_,?_⟩
  ·obtain⟨cs,h1,h2,h3,h4⟩:=k2 b X hX;exact⟨cs,h1,h2,fun j hj=>by obtain⟨u,h5,h6⟩:=h3 j hj;exact⟨u,h5,a8.turn hdom _ _ h6⟩,h4⟩
  ·rw[<-e2 t ht];exact a8.turn hdom _ _ (k3 t)
  ·refine⟨H.gr.os,H.gr.tape,H.gr.output,H.gr.size,fun k hk _=>H.gr.keep k hk (fun x=>x),H.gr.shape,fun k hk hm=>?_⟩;rcases k4 k hm with h6|h6
   ·exact h6
   ·exact absurd hk om
 have tailStep:∀listed a' w' i,jS ops q jss K S.dom N w.drew listed a' w'->fE ops listed->i∈Region.ready .any ops listed->wpOp Tryz.prog ops Q i (fun a'' w''=>oa ops q S (Os q) al N a w.drew (listed.setIfInBounds i true) a'' w''∨jS ops q jss K S.dom N w.drew (listed.setIfInBounds i true) a'' w'') a' w':=by
  intro listed a' w' i T hcl hi;obtain⟨k,O',S',hk1,hk2,hsz,hl,hfr,hL,hdef,hts,hrs,htm,hG⟩:=T.ex;obtain⟨o,ho,hun,haft⟩:=df hi;have hio:i<ops.size:=(bM.1 ho).1;have hils:i<listed.size:=by omega
  unfold wpOp;simp only[ho];rw[if_pos (by simp[Region.wanted,D.guard i o ho])]
  refine bH ?_;rcases aE i q with hiq|hiq
  ·
   obtain⟨o',d,hf,hok'⟩:=hfr i hiq hun;have ho':=hf.op;rw[ho]at ho';cases ho';have hdst:=hf.dst
   let Om:Tm:=fun t=>if nV ops q listed t then .any else O' t
   have hRm:RT Om S' N a' w':=⟨hdef,hts,fun t=>by
    simp only[Om];split
    ·simp[a8]
    ·rename_i hc;exact htm t hc,hrs⟩
   have hLm:=ko (O':=Om) (i9 fun t ht=>by
    simp only[Om];rw[if_neg];rintro⟨j,oj,hjl,hfj⟩;have:=haft j (D.reads i o j oj t hiq hfj.lt ho hfj.op hfj.dst ht).2;rw[eK this]at hjl;cases hjl) hok'
   refine lw hLm hRm (fun v w'' hv hg=>bD ⟨k,O',S',hk1,hk2,by simp[hsz],fun j hj1 hj2=>?_,fun j hj1 hj2=>?_,hL,by rw[gH];exact hdef,by rw[iZ];exact hts,hrs.frozen hg,fun t ht=>?_,hG.trans (hg.any _)⟩)
   ·rw[cb _ _ _ _ hils,if_neg om];exact hl j hj1 hj2
   ·rw[cb _ _ _ _ hils]at hj2;by_cases e:j=i
    ·rw[if_pos e]at hj2;cases hj2
    ·rw[if_neg e]at hj2;exact hfr j hj1 hj2
   ·rw[hdst];by_cases e:t=d
    ·subst e;rw[put_eq (by rw[hts];exact dstN i o t ho hdst)];exact hv
    ·rw[iU (by intro e2;cases e2;exact e rfl)]
     refine a8.grow hrs.noU (hg.any _) _ _ (htm t ?_);rintro⟨j,oj,hjl,hfj⟩;refine ht ⟨j,oj,?_,hfj⟩;rw[cb _ _ _ _ hils,if_neg]
     ·exact hjl
     ·rintro rfl;have hoj:=hfj.op;rw[ho]at hoj;cases hoj;have hdj:=hfj.dst;rw[hdst]at hdj;cases hdj;exact e rfl
  ·have hik:i=k:=by
    rcases dJ i k with h1|h1|h1
    ·rw[(hl i hiq hio).2 h1]at hun;cases hun
    ·exact h1
    ·rcases D.tail i o hiq ho k h1 with h2|⟨_,p,d,h2⟩
     ·have hk3:listed.getD k false=true:=h2.elim (haft k) (eB hcl 12 k i o ho haft);have:=(hl k om om).1 (eK hk3);omega
     ·have:=h2.lt;omega
   subst hik;have hdrop:ops.toList.drop i=o::ops.toList.drop (i+1):=by
    have h1:ops.toList[i]? = some o:=by simpa using ho
    rw[ij (by simpa using hio)]
    congr 1;exact(cG.1 h1).2
   rw[hdrop]at hL;unfold Fq at hL
   let Om:Tm:=fun t=>if nV ops q listed t then .any else O' t
   have hRm:RT Om S' N a' w':=⟨hdef,hts,fun t=>by
    simp only[Om];split
    ·simp[a8]
    ·rename_i hc;exact htm t hc,hrs⟩
   have hLm:=pj (O':=Om) (i9 fun t ht=>by
    simp only[Om];rw[if_neg];rintro⟨j,y,hjl,hfj⟩;have:=haft j ((hfj.tail i o hiq ho).2 ht);rw[eK this]at hjl;cases hjl) hL
   refine kg hLm hRm (fun z v w'' S'' hz hv hs hg=>bD ⟨i+1,O'.put o.dst z,S'',by omega,by omega,by simp[hsz],fun j hj1 hj2=>?_,fun j hj1 hj2=>?_,by rw[show i+1-q=(i-q)+1 by omega];exact hz.2,by rw[gH];exact hdef,by rw[iZ];exact hts,hs,fun t ht=>?_,hG.trans hg⟩)
   ·rw[cb _ _ _ _ hils];by_cases e:j=i
    ·rw[if_pos e];simp;omega
    ·rw[if_neg e,hl j hj1 hj2];omega
   ·rw[cb _ _ _ _ hils,if_neg om]at hj2;obtain⟨p,d,hf,_⟩:=hfr j hj1 hj2;refine⟨p,d,hf,?_⟩;have hjs:j∈uN (Et jss (i-q)):=by
     rcases D.tail i o hiq ho j om with h1|h1
     ·rw[eK (h1.elim (haft j) (eB hcl 12 j i o ho haft))]at hj2;cases hj2
     ·exact h1.1
    obtain⟨p',d',h1,h2,h3⟩:=ns hz.1 j hjs;have h4:ops.toList[j]? = some p:=by simpa using hf.op
    rw[h4]at h1;cases h1;have h5:=hf.dst;rw[h2]at h5;cases h5;exact h3
   ·have hlate:¬nV ops q listed t:=by
     rintro⟨j,y,hjl,hfj⟩;refine ht ⟨j,y,?_,hfj⟩;rw[cb _ _ _ _ hils,if_neg]
     ·exact hjl
     ·have:=hfj.lt;omega
    by_cases e:o.dst=some t
    ·rw[e,put_eq (by rw[hts];exact dstN i o t ho e)]
     rw[show(O'.put (some t) z) t=z by simp[Tm.put_eq]];exact hv
    ·rw[iU e];have hold:=a8.grow hrs.noU hg _ _ (htm t hlate)
     cases hdo:o.dst with
     | none=>rw[td];exact hold
     | some e'=>rw[mK (fun e2=>e (by rw[hdo,e2]))];exact hold
 have headStep:∀listed a' w' i,oa ops q S (Os q) al N a w.drew listed a' w'->fE ops listed->i∈Region.ready .any ops listed->wpOp Tryz.prog ops Q i (fun a'' w''=>oa ops q S (Os q) al N a w.drew (listed.setIfInBounds i true) a'' w''∨jS ops q jss K S.dom N w.drew (listed.setIfInBounds i true) a'' w'') a' w':=by
  intro listed a' w' i H hcl hi;obtain⟨o,ho,hun,haft⟩:=df hi;have hio:i<ops.size:=(bM.1 ho).1;have hils:i<listed.size:=by rw[H.size];exact hio
  rcases aE i q with hiq|hiq
  ·have hset:∀j d,(listed.setIfInBounds i true).getD j d=if j=i then true else listed.getD j d:=fun j d=>cb _ _ _ _ hils
   have gr2:∀{w'':World},co oS oS w' w''->co oS oS w.drew w'':=fun hg=>H.gr.trans hg;have hS:dz w' S:=w0s.frozen H.gr;have mk:∀(v:Value) (w'':World),co oS oS w' w''->(∀d,o.dst=some d->a8 w'' S.dom (Os q d) v) ->
     (∃B:Nat->Nat,(∀(j:Nat) (p:Oper) (X:dn) (d:Nat),j<q->ops[j]? = some p->al j=some X->p.dst=some d->(listed.setIfInBounds i true).getD j false=true ->
       (a'.put o.dst v).tmps.getD d undef=.pointer (some ⟨B j,0,ac⟩)/\w.drew.heap.size<=B j/\∃zc,w''.heap[B j]? = some (.cells zc X.ty (0,0))/\ZX X zc) /\
      ∀j k,j<q->k<q->(al j).isSome=true->(al k).isSome=true->(listed.setIfInBounds i true).getD j false=true->(listed.setIfInBounds i true).getD k false=true->B j=B k->j=k) ->
     oa ops q S (Os q) al N a w.drew (listed.setIfInBounds i true) (a'.put o.dst v) w'':=by
    intro v w'' hg hz hB;refine⟨by simp[H.size],fun j hj1 hj2=>?_,by rw[gH];exact H.defers,by rw[iZ];exact H.tsize,gr2 hg,fun t ht=>?_,fun t ht=>?_,hB⟩
    ·rw[hset,if_neg om];exact H.tailU j hj1 hj2
    ·by_cases e:o.dst=some t
     ·rw[e,put_eq (by rw[H.tsize];exact dstN i o t ho e)]
      exact hz t e
     ·rw[iU e];refine a8.grow hS.noU (hg.any _) _ _ (H.tm t (fun j p hj hp hpt=>?_));have:=ht j p hj hp hpt;rw[hset]at this;by_cases e2:j=i
      ·subst e2;rw[ho]at hp;cases hp;exact absurd hpt e
      ·rw[if_neg e2]at this;exact this
    ·rw[iU (ht i o hiq ho)];exact H.old t ht
   rcases hi' i o hiq ho with⟨t,d,X,hop,hdst,hX,hal,hO⟩|⟨hal,z,hz,hO⟩
   ·obtain⟨zc,z1,z2,z3⟩:=xV hX;unfold wpOp;simp only[ho];rw[if_pos (by simp[Region.wanted,D.guard i o ho])]
    refine bH (eW (v:=.pointer (some ⟨w'.heap.size,0,ac⟩)) (w':=w'.alloc (.cells zc t)) (by simp[execOp,hop,z2 w']) (bH ?_))
    have hg:co oS oS w' (w'.alloc (.cells zc t)):=⟨rfl,rfl,rfl,by simp,fun k hk _=>mA w' _ k hk,fun k cs ty fr hc=>⟨cs,by rw[mA w' _ k (dE hc)];exact hc,rfl⟩,fun _ _ h=>h⟩
    obtain⟨B,hB1,hB2⟩:=H.news;have hBlt:∀(j:Nat) (p:Oper) (Y:dn) (e:Nat),j<q->ops[j]? = some p->al j=some Y->p.dst=some e->listed.getD j false=true->B j<w'.heap.size:=by
     intro j p Y e h1 h2 h3 h4 h5;obtain⟨_,_,zc',hz',_⟩:=hB1 j p Y e h1 h2 h3 h4 h5;exact dE hz'
    have hdsome:∀(j:Nat),j<q->(al j).isSome=true->∃p Y e,ops[j]? = some p/\al j=some Y/\p.dst=some e:=by
     intro j hj hs;have hjs:j<ops.size:=by have:=D.le;omega
     rcases hi' j ops[j] hj (aB hjs)with⟨_,e,Y,_,h2,_,h4,_⟩|⟨h4,_⟩
     ·exact⟨ops[j],Y,e,aB hjs,h4,h2⟩
     ·rw[h4]at hs;cases hs
    refine mk _ _ hg (fun d' hd'=>?_) ⟨fun j=>if j=i then w'.heap.size else B j,fun j p Y e h1 h2 h3 h4 h5=>?_,fun j k h1 h2 h3 h4 h5 h6 h7=>?_⟩
    ·rw[hdst]at hd';cases hd';have:Os q d=.any:=by
      rw[stable d q (i+1) om (ah _) (fun j p hj1 hj2 hp hpd=>by
       have:=D.apart i o j p d hiq hj2 ho hp hdst hpd;omega),hO]
      simp[Tm.put_eq]
     rw[this];simp[a8]
    ·by_cases e2:j=i
     ·subst e2;rw[ho]at h2;cases h2;rw[hdst]at h4;cases h4;rw[hal]at h3;cases h3;simp only[if_true];refine⟨by rw[hdst,put_eq (by rw[H.tsize];exact dstN j o d ho hdst)],H.gr.size,zc,?_,z3⟩
      rw[z1];exact heap_alloc_new w' _
     ·simp only[if_neg e2];rw[hset,if_neg e2]at h5;obtain⟨g1,g2,zc',g3,g4⟩:=hB1 j p Y e h1 h2 h3 h4 h5;refine⟨?_,g2,zc',?_,g4⟩
      ·rw[iU]
       ·exact g1
       ·intro e3;exact e2 (D.apart j p i o e h1 hiq h2 ho h4 e3)
      ·rw[mA w' _ _ (dE g3)];exact g3
    ·rw[hset]at h5 h6;by_cases e1:j=i
     ·by_cases e2:k=i
      ·rw[e1,e2]
      ·simp only[if_pos e1,if_neg e2]at h7;rw[if_neg e2]at h6;obtain⟨p,Y,e,b1,b2,b3⟩:=hdsome k h2 h4;have:=hBlt k p Y e h2 b1 b2 b3 h6;omega
     ·by_cases e2:k=i
      ·simp only[if_neg e1,if_pos e2]at h7;rw[if_neg e1]at h5;obtain⟨p,Y,e,b1,b2,b3⟩:=hdsome j h1 h3;have:=hBlt j p Y e h1 b1 b2 b3 h5;omega
      ·simp only[if_neg e1,if_neg e2]at h7;rw[if_neg e1]at h5;rw[if_neg e2]at h6;exact hB2 j k h1 h2 h3 h4 h5 h6 h7
   ·classical
    let Oe:Tm:=fun t=>if (∀(j:Nat) (p:Oper),j<q->ops[j]? = some p->p.dst=some t->listed.getD j false=true)then Os q t else .any
    have hRe:RT Oe S N a' w':=⟨H.defers,H.tsize,fun t=>by
     simp only[Oe];split
     ·rename_i hc;exact H.tm t hc
     ·simp[a8],hS⟩
    have hze:wa o Oe S z:=ko (i9 fun t ht=>by
     have hc:∀(j:Nat) (p:Oper),j<q->ops[j]? = some p->p.dst=some t->listed.getD j false=true:=fun j p hj hp hpt =>
      haft j (D.reads i o j p t hiq hj ho hp hpt ht).2
     simp only[Oe];rw[if_pos hc,stable t q i om (ah _) (fun j p hj1 hj2 hp hpt=>by
      have:=(D.reads i o j p t hiq hj2 ho hp hpt ht).1;omega)]) hz
    unfold wpOp;simp only[ho];rw[if_pos (by simp[Region.wanted,D.guard i o ho])]
    refine bH (lw hze hRe (fun v w'' hv hg=>bH ?_));obtain⟨B,hB1,hB2⟩:=H.news;refine mk v w'' hg (fun d hdd=>?_) ⟨B,fun j p Y e h1 h2 h3 h4 h5=>?_,fun j k h1 h2 h3 h4 h5 h6 h7=>?_⟩
    ·have:Os q d=z:=by
      rw[stable d q (i+1) om (ah _) (fun j p hj1 hj2 hp hpd=>by
       have:=D.apart i o j p d hiq hj2 ho hp hdd hpd;omega),hO,hdd]
      simp[Tm.put_eq]
     rw[this];exact hv
    ·have hji:j≠i:=fun e2=>by subst e2;rw[hal]at h3;cases h3
     rw[hset,if_neg hji]at h5;obtain⟨g1,g2,zc',g3,g4⟩:=hB1 j p Y e h1 h2 h3 h4 h5;refine⟨?_,g2,zc',(hg.keep _ (dE g3) (fun x=>x)).trans g3,g4⟩;rw[iU]
     ·exact g1
     ·intro e3;exact hji (D.apart j p i o e h1 hiq h2 ho h4 e3)
    ·rw[hset]at h5 h6;have hji:j≠i:=fun e2=>by subst e2;rw[hal]at h3;cases h3
     have hki:k≠i:=fun e2=>by subst e2;rw[hal]at h4;cases h4
     rw[if_neg hji]at h5;rw[if_neg hki]at h6;exact hB2 j k h1 h2 h3 h4 h5 h6 h7
  ·have hi0:i=q:=by
    rcases aE q i with h|h
    ·exfalso;rcases D.tail i o hiq ho q h with h1|⟨_,p,d,h1⟩
     ·have h2:=eK (h1.elim (haft q) (eB hcl 12 q i o ho haft));rw[H.tailU q (ah _) om]at h2;cases h2
     ·have:=h1.lt;omega
    ·omega
   refine tailStep listed a' w' i (HT listed a' w' H (fun j hj hjl=>?_)) hcl hi;rcases D.tail i o hiq ho j om with h1|h1
   ·rw[eK (h1.elim (haft j) (eB hcl 12 j i o ho haft))]at hjl;cases hjl
   ·have h2:=h1.1;rw[hi0,bP]at h2;exact⟨h2,h1.2⟩
 have first:∀listed,listed.size=ops.size->Region.ready .any ops listed=[]->∀m,m<=ops.size->∀j,j<m->listed.getD j false=true:=by
  intro listed hsz hre m
  induction m with
  | zero=>intro _ j hj;omega
  | succ m ih =>
   intro hm j hj;by_cases e:j<m
   ·exact ih om j e
   ·obtain rfl:j=m:=by omega
    have hjo:j<ops.size:=by omega
    cases hv:listed.getD j false with
    | true=>rfl
    | false =>
     have hj2:listed.getD j true=false:=by
      rw[aF,aB om]at hv ⊢;exact hv
     have:j∈Region.ready .any ops listed:=ot (aB hjo) hj2 (fun k hk=>ih om k (D.back j _ (aB hjo) k hk));rw[hre]at this;cases this
 refine wp_region_any (by kernel_rfl) (iN (fun listed a' w'=>fE ops listed/\(oa ops q S (Os q) al N a w.drew listed a' w'∨jS ops q jss K S.dom N w.drew listed a' w')) ?_ ?_ ops.size _ a w.drew ?_ ⟨fun i o ho h=>?_,bH ?_⟩)
 ·intro listed a' w' i hI hi;obtain⟨hcl,hI⟩:=hI;have hcl':fE ops (listed.setIfInBounds i true):=by
   obtain⟨o,ho,hun,haft⟩:=df hi;have hgo:∀k,listed.getD k false=true->(listed.setIfInBounds i true).getD k false=true:=fun k hk=>by
    rw[aF]at hk ⊢;rw[nR];split
    ·split<;>simp_all
    ·exact hk
   intro j p hp hj k hk;by_cases e:j=i
   ·subst e;rw[ho]at hp;cases hp;exact hgo k (haft k hk)
   ·refine hgo k (hcl j p hp ?_ k hk);rw[aF]at hj ⊢
    rwa [bZ (Ne.symm e)]at hj
  have e:(fun a'' w''=>fE ops (listed.setIfInBounds i true)/\(oa ops q S (Os q) al N a w.drew (listed.setIfInBounds i true) a'' w''∨jS ops q jss K S.dom N w.drew (listed.setIfInBounds i true) a'' w''))=fun a'' w''=>(oa ops q S (Os q) al N a w.drew (listed.setIfInBounds i true) a'' w''∨jS ops q jss K S.dom N w.drew (listed.setIfInBounds i true) a'' w''):=by
   funext a'' w'';simp[hcl']
  show wpOp Tryz.prog ops Q i (fun a'' w''=>fE ops (listed.setIfInBounds i true)/\(oa ops q S (Os q) al N a w.drew (listed.setIfInBounds i true) a'' w''∨jS ops q jss K S.dom N w.drew (listed.setIfInBounds i true) a'' w'')) a' w';rw[e];rcases hI with H|T
  ·exact headStep listed a' w' i H hcl hi
  ·exact tailStep listed a' w' i T hcl hi
 ·rintro listed a' w' ⟨_,hI⟩ hre;have fin:jS ops q jss K S.dom N w.drew listed a' w'->Q .normal a' w':=by
   intro T;obtain⟨k,O',S',hk1,hk2,hsz,hl,hfr,hL,hdef,hts,hrs,htm,hG⟩:=T.ex;have hall:=first listed hsz hre ops.size (ah _)
   have hk:k=ops.size:=by
    rcases aE k ops.size with h1|h1
    ·have:=(hl k hk1 h1).1 (eK (hall k h1));omega
    ·omega
   rw[hk,fy (by simp)]at hL
   refine hq O' S' a' w' hL ⟨hdef,hts,fun t=>htm t ?_,hrs⟩ ((co.drew S.dom w).trans hG);rintro⟨j,y,hjl,hfj⟩;rw[eK (hall j (by have:=hfj.lt;have:=D.le;omega))]at hjl;cases hjl
  rcases hI with H|T
  ·refine fin (HT listed a' w' H (fun j hj hjl=>?_));rw[eK (first listed H.size hre ops.size (ah _) j (by have:=D.le;omega))]at hjl;cases hjl
  ·exact fin T
 ·simp only[Ia];exact bW mc (by simp)
 ·rw[mJ]at h;cases h
 ·refine⟨by simp,fun i _ hi2=>yD hi2,hr.defers,hr.size,co.refl _ _,fun t ht=>?_,fun _ _=>rfl,fun _=>0,fun i o X d h1 h2 h3 h4 h5=>?_,fun i j h1 h2 h3 h4 h5 h6 h7=>?_⟩
  ·have hno:∀(j:Nat) (o:Oper),j<q->ops[j]? = some o->o.dst≠some t:=by
    intro j o hj ho hdt;have:=ht j o hj ho hdt;rw[mJ]at this;cases this
   rw[stable t q 0 om (ah _) (fun j o _ hj ho=>hno j o hj ho),e0];exact r0.tm t
  ·rw[mJ]at h5;cases h5
  ·rw[mJ]at h5;cases h5
def xW(ops:Array Oper):Bool:=ops.toList.zipIdx.all (fun p=>(aft p.1).all (fun k=>decide (k<p.2)))
def wH(ops:Array Oper)(o:Oper)(O:Tm)(S:St)(K:Tm->St->Prop):Prop:=match o.guard with
 | ac=>vF o O S (fun z S'=>K (O.put o.dst z) S')
 | some (j,want)=>(match zT ops O j with
  | .bool b=>(b=want->vF o O S (fun z S'=>K (O.put o.dst z) S'))/\(b=!want->K (O.put o.dst .any) S)
  | _=>False)
def awI(ops:Array Oper)(O:Tm)(S:St)(K:Tm->St->Prop):Prop:=∃P:(Nat->Bool)->Tm->St->Prop,xW ops=true/\P (fun _=>false) O S /\
 (∀(i:Nat) (o:Oper),ops[i]? = some o->∀L O S,P L O S->L i=false->(∀k∈aft o,L k=true)->wH ops o O S (P (fun k=>if k=i then true else L k))) /\
 (∀L O S,P L O S->(∀i,i<ops.size->L i=true)->K O S)
theorem EN{ops:Array Oper}{N id:Nat}{Q:Exit->Act->World->Prop}{K:Tm->St->Prop}{O:Tm}{S:St}{a:Act}{w:World}(h:awI ops O S K)(hr:RT O S N a w)(hd:pB N ops.toList=true)
  (hq:∀O' S' a' w',K O' S'->RT O' S' N a' w'->co S.dom S'.dom w w'->Q .normal a' w'):(Code.region id ops true).wp Tryz.prog Q a w:=by
 obtain⟨P,hok,h0,hstep,hend⟩:=h;have back:∀(j:Nat) (o:Oper),ops[j]? = some o->∀k∈aft o,k<j:=by
  intro j o ho k hk;have h1:=az.1 hok (o,j) (fJ (by simpa using ho))
  have h2:=az.1 h1 k hk;simpa using h2
 have w0s:dz w.drew S:=hr.st.drew;have r0:RT O S N a w.drew:=⟨hr.defers,hr.size,fun t=>a8.grow hr.st.noU (co.drew _ w) _ _ (hr.tm t),w0s⟩;have dstN:∀(i:Nat) (o:Oper) (d:Nat),ops[i]? = some o->o.dst=some d->d<N:=by
  intro i o d ho hdd;have:=az.1 hd o (cq (by simpa using ho:ops.toList[i]? = some o))
  rw[hdd]at this;simpa using this
 have first:∀listed,listed.size=ops.size->Region.ready .any ops listed=[]->∀m,m<=ops.size->∀j,j<m->listed.getD j false=true:=by
  intro listed hsz hre m
  induction m with
  | zero=>intro _ j hj;omega
  | succ m ih =>
   intro hm j hj;by_cases e:j<m
   ·exact ih om j e
   ·obtain rfl:j=m:=by omega
    have hjo:j<ops.size:=by omega
    cases hv:listed.getD j false with
    | true=>rfl
    | false =>
     have hj2:listed.getD j true=false:=by
      rw[aF,aB om]at hv ⊢;exact hv
     have:j∈Region.ready .any ops listed:=ot (aB hjo) hj2 (fun k hk=>ih om k (back j _ (aB hjo) k hk));rw[hre]at this;cases this
 refine wp_region_any (by kernel_rfl) (iN (fun listed a' w'=>listed.size=ops.size/\∃O' S',P (fun i=>listed.getD i false) O' S'/\RT O' S' N a' w'/\co S.dom S'.dom w.drew w') ?_ ?_ ops.size _ a w.drew ?_ ⟨by simp,O,S,?_,r0,co.refl _ _⟩)
 ·rintro listed a' w' i ⟨hsz,O',S',hP,hR,hG⟩ hi;obtain⟨o,ho,hun,haft⟩:=df hi;have hil:i<ops.size:=(bM.1 ho).1;have hun2:listed.getD i false=false:=by
   rw[aF,aB om]at hun ⊢;exact hun
  have hL:(fun k=>listed.getD k false) i=false:=hun2;have h1:=hstep i o ho _ O' S' hP hL haft;have hset:(fun k=>(listed.setIfInBounds i true).getD k false)=(fun k=>if k=i then true else listed.getD k false):=by
   funext k;exact cb listed i k false om
  have nxt:∀z v w'' S'',P (fun k=>if k=i then true else listed.getD k false) (O'.put o.dst z) S''->a8 w'' S''.dom z v->dz w'' S''->co S'.dom S''.dom w' w'' ->
    ((listed.setIfInBounds i true).size=ops.size/\∃O1 S1,P (fun i_1=>(listed.setIfInBounds i true).getD i_1 false) O1 S1/\RT O1 S1 N (a'.put o.dst v) w''/\co S.dom S1.dom w.drew w''):=by
   intro z v w'' S'' hz hv hs hg;refine⟨by simp[hsz],_,S'',?_,hR.put hg hs (fun d hdd=>dstN i o d ho hdd) hv,hG.trans hg⟩
   rw[hset];exact hz
  unfold wpOp;simp only[ho];unfold wH at h1
  cases hgd:o.guard with
  | none =>
   rw[hgd]at h1;rw[if_pos (by simp[Region.wanted,hgd])]
   exact bH (kg h1 hR (fun z v w'' S'' hz hv hs hg=>nxt z v w'' S'' hz hv hs hg))
  | some p =>
   obtain⟨j,want⟩:=p;rw[hgd]at h1;simp only at h1
   cases hy:zT ops O' j<;>rw[hy]at h1<;>try exact h1.elim
   rename_i b;have hyv:=wS hR hy;by_cases hb:b=want
   ·rw[if_pos (by simp[Region.wanted,hgd,hyv,hb])]
    exact bH (kg (h1.1 hb) hR (fun z v w'' S'' hz hv hs hg=>nxt z v w'' S'' hz hv hs hg))
   ·rw[if_neg (by simp[Region.wanted,hgd,hyv,hb])]
    have hb2:b=!want:=by cases b<;>cases want<;>simp_all
    exact nxt .any undef w' S' (h1.2 hb2) (by simp[a8]) hR.st (co.refl _ _)
 ·rintro listed a' w' ⟨hsz,O',S',hP,hR,hG⟩ hre;exact hq O' S' a' w' (hend _ O' S' hP (fun i hi=>first listed hsz hre ops.size (ah _) i hi)) hR ((co.drew S.dom w).trans hG)
 ·simp only[Ia];exact bW mc (by simp)
 ·have e:(fun i=>(im ops.size false).getD i false)=fun _=>false:=by funext i;exact mJ _ _
  show P (fun i=>(im ops.size false).getD i false) O S;rw[e];exact h0
inductive AX where
 | normal
 | ret
 | exit (id:Nat)
def AX.seq(k:Tm->St->Prop)(Q:AX->Tm->St->Prop):AX->Tm->St->Prop
 | .normal=>k
 | .ret=>Q .ret
 | .exit i=>Q (.exit i)
def AX.blk(id:Nat)(Q:AX->Tm->St->Prop):AX->Tm->St->Prop
 | .normal=>Q .normal
 | .ret=>Q .ret
 | .exit i=>if i=id then Q .normal else Q (.exit i)
def Jm(ops:Array Oper)(O:Tm)(S:St)(K:Tm->St->Prop):Prop:=awD ops O S K∨awF ops O S K∨awG ops O S K∨awA ops O S K∨awI ops O S K
def aw:Code->(AX->Tm->St->Prop)->Tm->St->Prop
 | .skip,Q,O,S=>Q .normal O S
 | .region _ ops false,Q,O,S=>sW ops ops.toList O S (Q .normal)
 | .region _ ops true,Q,O,S=>Jm ops O S (Q .normal)
 | .seq x y,Q,O,S=>aw x (AX.seq (aw y Q) Q) O S
 | .cond c x y,Q,O,S=>(match ev O c with
  | .bool b=>(b=true->aw x Q O S)/\(b=false->aw y Q O S)
  | _=>False)
 | .block id c,Q,O,S=>aw c (AX.blk id Q) O S
 | .loop c,Q,O,S=>∃(I:Tm->St->Prop) (μ:Tm->St->Nat),I O S/\∀O S,I O S->aw c (AX.seq (fun O' S'=>I O' S'/\μ O' S' < μ O S) Q) O S
 | .exit id,Q,O,S=>Q (.exit id) O S
 | .ret,Q,O,S=>Q .ret O S
 | .scope c,Q,O,S=>aw c Q O S
 | .label _,Q,O,S=>Q .normal O S
 | _,_,_,_=>False
def ie(N:Nat):Code->Bool
 | .skip=>true
 | .region _ ops _=>pB N ops.toList
 | .seq x y=>ie N x&&ie N y
 | .cond _ x y=>ie N x&&ie N y
 | .block _ c=>ie N c
 | .loop c=>ie N c
 | .exit _=>true
 | .ret=>true
 | .scope c=>ie N c
 | .label _=>true
 | _=>false
def Post(Q:AX->Tm->St->Prop)(D:Nat->Prop)(N:Nat)(w0:World):Exit->Act->World->Prop
 | .normal,a,w=>∃O S,Q .normal O S/\RT O S N a w/\co D S.dom w0 w
 | .ret,a,w=>∃O S,Q .ret O S/\RT O S N a w/\co D S.dom w0 w
 | .exit i,a,w=>∃O S,Q (.exit i) O S/\RT O S N a w/\co D S.dom w0 w
 | _,_,_=>False
theorem kK{N:Nat}:∀(c:Code) (Q:AX->Tm->St->Prop) (O:Tm) (S:St) (D:Nat->Prop) (w0:World) (a:Act) (w:World),aw c Q O S->ie N c=true->RT O S N a w->co D S.dom w0 w->c.wp Tryz.prog (Post Q D N w0) a w
 | .skip,Q,O,S,D,w0,a,w,h,_,hr,hg=>wp_skip ⟨O,S,h,hr,hg⟩
 | .region id ops false,Q,O,S,D,w0,a,w,h,hc,hr,hg=>by
  refine wp_region_list (rV ops.toList h hr hc (fun O' S' a' w' h1 h2 h3=>⟨O',S',h1,h2,hg.trans h3⟩))
 | .region id ops true,Q,O,S,D,w0,a,w,h,hc,hr,hg =>
  h.elim (fun h=>EQ h hr hc (fun O' S' a' w' h1 h2 h3=>⟨O',S',h1,h2,hg.trans h3⟩)) (fun h=>h.elim (fun h=>EP h hr hc (fun O' S' a' w' h1 h2 h3=>⟨O',S',h1,h2,hg.trans h3⟩)) (fun h=>h.elim (fun h=>EO h hr hc (fun O' S' a' w' h1 h2 h3=>⟨O',S',h1,h2,hg.trans h3⟩)) (fun h=>h.elim (fun h=>ES h hr hc (fun O' S' a' w' h1 h2 h3=>⟨O',S',h1,h2,hg.trans h3⟩)) (fun h=>EN h hr hc (fun O' S' a' w' h1 h2 h3=>⟨O',S',h1,h2,hg.trans h3⟩)))))
 | .seq x y,Q,O,S,D,w0,a,w,h,hc,hr,hg=>by
  simp only[ie,au]at hc;simp only[aw]at h;refine wp_seq (Code.wp_mono ?_ (kK x _ O S D w0 a w h hc.1 hr hg));intro e a' w' hp
  cases e with
  | normal=>obtain⟨O',S',h1,h2,h3⟩:=hp;exact kK y Q O' S' D w0 a' w' h1 hc.2 h2 h3
  | ret=>exact hp
  | exit i=>exact hp
  | goto l=>exact hp.elim
  | panic ch=>exact hp.elim
  | outgrown=>exact hp.elim
 | .cond c x y,Q,O,S,D,w0,a,w,h,hc,hr,hg=>by
  simp only[ie,au]at hc;simp only[aw]at h;have hv:=hr.ev c
  cases hcv:ev O c<;>rw[hcv]at h hv<;>try exact h.elim
  rename_i b;simp only[a8]at hv
  cases b
  ·exact wp_cond_false hv (kK y Q O S D w0 a w (h.2 rfl) hc.2 hr hg)
  ·exact wp_cond_true hv (kK x Q O S D w0 a w (h.1 rfl) hc.1 hr hg)
 | .block id c,Q,O,S,D,w0,a,w,h,hc,hr,hg=>by
  simp only[ie]at hc;simp only[aw]at h;refine wp_block (Code.wp_mono ?_ (kK c _ O S D w0 a w h hc hr hg));intro e a' w' hp
  cases e with
  | normal=>exact hp
  | ret=>exact hp
  | exit i =>
   obtain⟨O',S',h1,h2,h3⟩:=hp;simp only[AX.blk]at h1;simp only[Exit.inBlock];split at h1
   ·rename_i e;subst e;simp;exact⟨O',S',h1,h2,h3⟩
   ·rename_i e;simp[e];exact⟨O',S',h1,h2,h3⟩
  | goto l=>exact hp.elim
  | panic ch=>exact hp.elim
  | outgrown=>exact hp.elim
 | .loop c,Q,O,S,D,w0,a,w,h,hc,hr,hg=>by
  simp only[ie]at hc;simp only[aw]at h;obtain⟨I,μ,hI,hround⟩:=h;have key:∀n O S a w,μ O S<n->I O S->RT O S N a w->co D S.dom w0 w->Code.rounds Tryz.prog c (Post Q D N w0) n a w:=by
   intro n
   induction n with
   | zero=>intro O S a w h1;omega
   | succ n ih =>
    intro O S a w h1 h2 h3 h4;refine Code.wp_mono ?_ (kK c _ O S D w0 a w (hround O S h2) hc h3 h4);intro e a' w' hp
    cases e with
    | normal =>
     obtain⟨O',S',⟨k1,k2⟩,k3,k4⟩:=hp;exact ih O' S' a' w' om k1 k3 k4
    | ret=>exact hp
    | exit i=>exact hp
    | goto l=>exact hp.elim
    | panic ch=>exact hp.elim
    | outgrown=>exact hp.elim
  exact wp_loop_rounds (μ O S+1) (key _ O S a w om hI hr hg)
 | .exit id,Q,O,S,D,w0,a,w,h,_,hr,hg=>wp_exit ⟨O,S,h,hr,hg⟩
 | .ret,Q,O,S,D,w0,a,w,h,_,hr,hg=>wp_ret ⟨O,S,h,hr,hg⟩
 | .rangeFunc ..,_,_,_,_,_,_,_,h,_,_,_=>h.elim
 | .scope c,Q,O,S,D,w0,a,w,h,hc,hr,hg=>by
  simp only[ie]at hc;simp only[aw]at h;refine wp_scope_straight (Code.wp_mono ?_ (kK c Q O S D w0 a w h hc hr hg));intro e a' w' hp
  cases e with
  | normal=>exact hp
  | ret=>exact hp
  | exit i=>exact hp
  | goto l=>exact hp.elim
  | panic ch=>exact hp.elim
  | outgrown=>exact hp.elim
 | .label _,Q,O,S,D,w0,a,w,h,_,hr,hg=>wp_label ⟨O,S,h,hr,hg⟩
 | .goto _,_,_,_,_,_,_,_,h,_,_,_=>h.elim
 | .refuse _,_,_,_,_,_,_,_,h,_,_,_=>h.elim
def sX:List ResultVar->Tm->St->(List AV->Prop)->Prop
 | [],_,_,K=>K []
 | .tmp t::r,O,S,K=>sX r O S (fun l=>K (O t::l))
 | .cell p ty::r,O,S,K=>mU ty (O p) S (fun z=>sX r O S (fun l=>K (z::l)))
def og:List AV->AV
 | [x]=>x
 | l=>.tup l
theorem yC{N:Nat}{O:Tm}{S:St}{a:Act}{w:World}(hr:RT O S N a w):∀(rs:List ResultVar) (K:List AV->Prop),sX rs O S K ->
  ∃l vs,K l/\a6 w S.dom l vs/\vs.length=rs.length/\(rs.mapM (m:=Sem) fun
   | .tmp t=>pure (a.tmps.getD t undef)
   | .cell p t=>do loadVar t (<-asAddr (a.tmps.getD p undef))).run Tryz.prog w=.ok vs w
 | [],K,h=>⟨[],[],h,by simp[a6],rfl,by simp⟩
 | .tmp t::r,K,h=>by
  obtain⟨l,vs,h1,h2,h3,h4⟩:=yC hr r _ h;exact⟨O t::l,a.tmps.getD t undef::vs,h1,by simp only[a6];exact⟨hr.tm t,h2⟩,by simp[h3],by simp only[List.mapM_cons,Sem.run_bind,Sem.run_pure,Result.andThen_ok,h4]⟩
 | .cell p ty::r,K,h=>by
  obtain⟨z,v,hz,hv,hrun⟩:=oN h hr.st (hr.tm p);obtain⟨l,vs,h1,h2,h3,h4⟩:=yC hr r _ hz;have hp:∃ad,a.tmps.getD p undef=.pointer (some ad):=by
   have hx:=hr.tm p;simp only[sX]at h
   cases hxv:O p<;>rw[hxv]at h hx<;>simp only[mU]at h
   ·simp only[a8]at hx;exact⟨_,hx⟩
   ·simp only[a8]at hx;obtain⟨b,off,u,hx,_⟩:=hx;exact⟨_,hx⟩
   ·simp only[a8]at hx;exact⟨_,hx⟩
  obtain⟨ad,hp⟩:=hp;rw[hp]at hrun;have hl:(loadVar ty ad).run Tryz.prog w=.ok v w:=by simpa [Instr.loadAt,Instr.sureAddr]using hrun
  have haddr:(asAddr (.pointer (some ad))).run Tryz.prog w=.ok ad w:=by simp[asAddr]
  exact⟨z::l,v::vs,h1,by simp only[a6];exact⟨hv,h2⟩,by simp[h3],by simp only[List.mapM_cons,Sem.run_bind,Sem.run_pure,Result.andThen_ok,hp,haddr,hl,h4]⟩
def D9(args:List AV):Tm:=fun t=>args.getD t .any
theorem Id{w:World}{M:Nat->Prop}:∀(args:List AV) (vs:List Value) (k:Nat),a6 w M args vs->∀t,a8 w M (D9 args t) ((vs.toArray++im k undef).getD t undef):=by
 intro args vs k h t;have hu:∀(j:Nat),(im k undef).getD j undef=undef:=fun j=>by
  rw[aF,Array.getElem?_replicate];split<;>rfl
 rcases aE t args.length with h1|h1
 ·have hz:args[t]? = some (args[t]):=List.getElem?_eq_getElem h1;obtain⟨v,h2,h3⟩:=ra args vs h t _ hz;have ht:t<vs.length:=(cG.1 h2).1;have:(vs.toArray++im k undef).getD t undef=v:=by
   rw[aF,Array.getElem?_append_left (by simpa using ht)]
   simp[h2]
  rw[this];simp only[D9,cB,hz,Option.getD_some];exact h3
 ·have:D9 args t=.any:=by simp[D9,cB,List.getElem?_eq_none h1]
  rw[this];simp[a8]
theorem vN{w:World}{M:Nat->Prop}:∀(l:List AV) (vs:List Value),a6 w M l vs->vs.length=l.length
 | [],[],_=>rfl
 | _::l,_::vs,h=>by simp only[a6]at h;simp[vN l vs h.2]
 | [],_::_,h=>by simp[a6]at h
 | _::_,[],h=>by simp[a6]at h
def CL(rs:List ResultVar)(post:AV->St->Prop):AX->Tm->St->Prop
 | .normal,O,S=>sX rs O S (fun l=>post (og l) S)
 | .ret,O,S=>sX rs O S (fun l=>post (og l) S)
 | .exit _,_,_=>False
theorem mi{f:Nat}{fn:Func}{c:Code}(hf:Tryz.prog.funcs[f]? = some fn)(hb:fn.body=some c){args:List AV}{S:St}{post:AV->St->Prop}(N:Nat)(hN:fn.ntmps=N)(hok:ie N c=true)(hlen:args.length<=N)
  (h:aw c (CL fn.results.toList post) (D9 args) S):cM f args S post:=by
 intro w vs hs hr;refine calls_of_wp hf hb ?_;have hvl:=vN _ _ hr;have hrt:RT (D9 args) S N { tmps:=vs.toArray++im (fn.ntmps-vs.toArray.size) undef,defers:=[] } w:=by
  refine⟨rfl,?_,fun t=>Id args vs _ hr t,hs⟩;simp;omega
 refine Code.wp_mono ?_ (kK c _ _ S S.dom w _ w h hok hrt (co.refl _ _));have fin:∀a w',(∃O S',sX fn.results.toList O S' (fun l=>post (og l) S')/\RT O S' N a w'/\co S.dom S'.dom w w')->a.defers=[]/\∃v,(results fn a.tmps).run Tryz.prog w'=.ok v w'/\∃v' r S',Ending.returned v=.returned v'/\post r S'/\a8 w' S'.dom r v'/\dz w' S'/\co S.dom S'.dom w w':=by
  rintro a w' ⟨O,S',h1,h2,h3⟩;obtain⟨l,us,k1,k2,k3,k4⟩:=yC h2 _ _ h1;have hul:=vN _ _ k2;refine⟨h2.defers,if h:us.toArray.size=1 then us.toArray[0]else .tuple us.toArray,?_,_,_,S',rfl,k1,?_,h2.st,h3⟩
  ·simp only[results];rw[Array.mapM_eq_mapM_toList];simp only[Sem.run_bind,Sem.run_map,Sem.run_pure];exact(congrArg (fun r:Result (List Value)=>((r.andThen fun a w'=>Result.ok a.toArray w').andThen fun a w'=>Result.ok (if h:a.size=1 then a[0]else Value.tuple a) w')) k4).trans rfl
  ·match l,us,k2,hul with
   | [x],[u],k2,_=>simp only[a6]at k2;simpa [og]using k2.1
   | [],[],k2,hul =>
    simp only[og,a8];exact⟨[],by simp,by simp[a6]⟩
   | x::y::l,u::u'::us,k2,_ =>
    simp only[og,a8];exact⟨u::u'::us,by simp,k2⟩
 intro e a w' hp
 cases e with
 | normal=>exact fin a w' hp
 | ret=>exact fin a w' hp
 | exit i=>obtain⟨O,S',h1,h2,h3⟩:=hp;exact h1.elim
 | goto l=>exact hp.elim
 | panic ch=>exact hp.elim
 | outgrown=>exact hp.elim
theorem yz{f:Nat}{fn:Func}{c:Code}(hf:Tryz.prog.funcs[f]? = some fn)(hb:fn.body=some c){args:List AV}{S:St}{post:AV->St->Prop}(N:Nat)(hN:fn.ntmps=N)(hok:ie N c=true)(hlen:args.length<=N)(_hne:fn.results.size≠0)
  (h:aw c (CL fn.results.toList post) (D9 args) S):cM f args S post:=mi hf hb N hN hok hlen h
end Go.Proofs.YtdobfmlmenaajaaGreatDoor
