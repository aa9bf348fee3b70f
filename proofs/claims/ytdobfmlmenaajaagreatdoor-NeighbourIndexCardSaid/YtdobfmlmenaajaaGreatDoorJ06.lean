/-
  Lemmas for NeighbourIndex.
-/
import Derived.Test.YtdobfmlmenaajaaGreatDoorJ05
import Derived.LoopN
import Derived.Scope
namespace Go.Proofs.YtdobfmlmenaajaaGreatDoor
open Go.RowKit Tryz
open _root_.Array renaming getElem?_eq_getElem→aG,getD_eq_getD_getElem?→aJ,getElem?_eq_some_iff→bS,getElem?_setIfInBounds_ne→cf,replicate→iJ,getElem?_setIfInBounds→oE
open Below renaming heap_alloc→m9
open _root_.Bool renaming and_eq_true→aA,false_eq_true→aR,or_eq_true→dj,not_eq_true'→fF,not_false→pD,not_true→yY
open _root_.Classical renaming choose→df,choose_spec→dS
open _root_.List renaming all_eq_true→aB,getElem?_cons_succ→bT,range→cn,map_cons→cq,mem_of_getElem?→cC,getD→cL,getElem?_cons_zero→cN,getElem?_eq_some_iff→cO,mem_cons_of_mem→dG,mem_cons_self→er,length_take→eC,mem_range→eQ,getElem?_take→eR,mem_map→fM,drop_of_length_le→fU,mem_filterMap→iq,drop_eq_getElem_cons→iH,nil_append→lw,getElem?_drop→lF,countP_le_length→mJ,mem_filter→oC
open _root_.Nat renaming le_refl→ah,zero_add→aF,lt_or_ge→aI,le_trans→bV,sub_self→bW,lt_trichotomy→db
open _root_.Ne renaming symm→ao
open _root_.Option renaming none→ac,map_eq_some_iff→cr,map_some→dp,getD_some→ge
open _root_.Or renaming inr→bH,inl→bQ
open Region renaming ready→cK,wanted→eB
open Tryz renaming prog→aj
set_option maxHeartbeats 6400000
set_option maxRecDepth 4096
set_option linter.all false
theorem dA{ops:Array Oper}{listed:Array Bool}{i:Nat}(h:i∈cK .any ops listed):∃o,ops[i]? = some o/\listed.getD i true=false/\∀k∈aft o,listed.getD k false=true:=by
 simp only[cK,oC,eQ,aA,fF]at h;obtain⟨h1,h2,h3⟩:=h;have ho:ops[i]? = some ops[i]:=aG h1;rw[ho]at h3;refine⟨ops[i],ho,h2,fun k hk=>?_⟩;simp only[dp,ge]at h3;simp only[aft,fM,oC]at hk;obtain⟨e,⟨he,hb⟩,rfl⟩:=hk;have:=(Array.all_eq_true_iff_forall_mem.1 h3) e (by simpa using he)
 simpa [hb]using this
theorem oZ{ops:Array Oper}{listed:Array Bool}{i:Nat}{o:Oper}(ho:ops[i]? = some o)(hl:listed.getD i true=false)(ha:∀k∈aft o,listed.getD k false=true):i∈cK .any ops listed:=by
 have hi:i<ops.size:=(bS.1 ho).1;simp only[cK,oC,eQ,aA,fF];refine⟨hi,hl,?_⟩;rw[ho];simp only[dp,ge];refine Array.all_eq_true_iff_forall_mem.2 fun e he=>?_;by_cases hb:Region.binds .any e=true
 ·have:=ha e.on (by simp only[aft,fM,oC];exact⟨e,⟨by simpa using he,hb⟩,rfl⟩)
  rw[this];simp
 ·simp[hb]
def IY(listed:Array Bool):Nat:=listed.toList.countP (·==false)
theorem DW{listed:Array Bool}{i:Nat}(h:listed.getD i true=false):IY (listed.setIfInBounds i true)+1=IY listed:=by
 have hi:i<listed.size:=by
  rcases aI i listed.size with h1|h1
  ·exact h1
  ·rw[aJ,Array.getElem?_eq_none h1]at h;cases h
 have hv:listed.toList[i]'(by simpa using hi)=false:=by
  rw[aJ,aG hi]at h;simpa using h
 simp only[IY,Array.toList_setIfInBounds];rw[List.countP_set (by simpa using hi),hv]
 have:0<listed.toList.countP (·==false):=List.countP_pos_iff.2 ⟨false,by rw[<-hv];exact List.getElem_mem _,rfl⟩
 rw[if_pos (by rfl),if_neg dc]
 omega
theorem ci(listed:Array Bool)(i k:Nat)(d:Bool)(hi:i<listed.size):(listed.setIfInBounds i true).getD k d=if k=i then true else listed.getD k d:=by
 simp only[aJ];by_cases e:k=i
 ·subst e;simp[hi]
 ·rw[if_neg e,cf (ao e)]
theorem ji{ops:Array Oper}{Q:Exit->Act->World->Prop}(I:Array Bool->Act->World->Prop)
  (hstep:∀listed a w i,I listed a w->i∈cK .any ops listed->wpOp aj ops Q i (fun a' w'=>I (listed.setIfInBounds i true) a' w') a w)
  (hend:∀listed a w,I listed a w->cK .any ops listed=[]->Q .normal a w) :
  ∀fuel listed a w,IY listed<=fuel->I listed a w->wpAny aj .any ops Q fuel listed a w
 | 0,listed,a,w,hf,hI=>by
  have hr:cK .any ops listed=[]:=by
   cases hr:cK .any ops listed with
   | nil=>rfl
   | cons x xs =>
    obtain⟨o,_,h2,_⟩:=dA (i:=x) (by rw[hr];exact er ..)
    have:=DW h2;omega
  exact⟨hr,hend listed a w hI hr⟩
 | fuel+1,listed,a,w,hf,hI=>by
  refine⟨hend listed a w hI,fun i hi=>?_⟩;obtain⟨o,_,h2,_⟩:=dA hi;have hu:=DW h2;exact wpOp_mono (fun a' w' h=>ji I hstep hend fuel _ a' w' om h) (hstep listed a w i hI hi)
def fY(ops:Array Oper)(listed:Array Bool):Prop:=∀(i:Nat) (o:Oper),ops[i]? = some o->listed.getD i false=true->∀k∈aft o,listed.getD k false=true
theorem eU{ops:Array Oper}{listed:Array Bool}(hc:fY ops listed):∀(f j i:Nat) (o:Oper),ops[i]? = some o->(∀k∈aft o,listed.getD k false=true)->oF ops f j i=true->listed.getD j false=true
 | 0,_,_,_,_,_,h=>by simp[oF]at h
 | f+1,j,i,o,ho,ha,h=>by
  simp only[oF,ho,dj]at h;rcases h with h|h
  ·exact ha j (by simpa using h)
  ·obtain⟨k,hk,h⟩:=List.any_eq_true.1 h
   replace h:=(aA _ _▸h:_/\_).2
   cases f with
   | zero=>simp[oF]at h
   | succ f =>
    cases hok:ops[k]? with
    | none=>simp[oF,hok]at h
    | some ok=>exact eU hc (f+1) j k ok hok (hc k ok hok (ha k hk)) h
structure DOK(ops:Array Oper)(q:Nat):Prop where
 guard:∀(i:Nat) (o:Oper),ops[i]? = some o->o.guard=ac
 back:∀(i:Nat) (o:Oper),ops[i]? = some o->∀k∈aft o,k<i
 reads:∀(i:Nat) (o:Oper) (j:Nat) (p:Oper) (t:Nat),i<q->j<q->ops[i]? = some o->ops[j]? = some p->p.dst=some t->t∈jY o->j<i/\j∈aft o
 apart:∀(i:Nat) (o:Oper) (j:Nat) (p:Oper) (t:Nat),i<q->j<q->ops[i]? = some o->ops[j]? = some p->o.dst=some t->p.dst=some t->i=j
 tail:∀(i:Nat) (o:Oper),q<=i->ops[i]? = some o->∀j,j<i->j∈aft o∨oF ops 12 j i=true
 le:q<=ops.size
theorem gn{l:List Oper}{i:Nat}{o:Oper}(h:l[i]? = some o):(o,i)∈l.zipIdx:=by
 rw[List.mem_zipIdx_iff_getElem?];exact h
theorem BP{ops:Array Oper}{q:Nat}(h:vZ ops q=true):DOK ops q:=by
 simp only[vZ,aA,decide_eq_true_eq]at h;obtain⟨⟨⟨⟨⟨h1,h2⟩,h3⟩,h4⟩,h5⟩,h6⟩:=h;have gl:∀{i:Nat} {o:Oper},ops[i]? = some o->ops.toList[i]? = some o:=fun h=>by simpa using h
 have tk:∀{i:Nat} {o:Oper},i<q->ops[i]? = some o->(o,i)∈(ops.toList.take q).zipIdx:=fun hi ho=>gn (by rw[eR,if_pos hi];exact gl ho)
 refine⟨fun i o ho=>?_,fun i o ho k hk=>?_,fun i o j p t hi hj ho hp ht hl=>?_,fun i o j p t hi hj ho hp ht hpt=>?_,fun i o hi ho j hj=>?_,by simpa using h6⟩
 ·have:=aB.1 h1 o (cC (gl ho));simpa using this
 ·have:=aB.1 (aB.1 h2 (o,i) (gn (gl ho))) k hk;simpa using this
 ·have:=aB.1 (aB.1 h3 (o,i) (tk hi ho)) (p,j) (tk hj hp);simp only[ht]at this;simp only[dj,fF,aA,decide_eq_true_eq]at this;rcases this with h7|h7
  ·simp at h7;exact absurd hl h7
  ·exact⟨h7.1,by simpa using h7.2⟩
 ·have:=aB.1 (aB.1 h4 (o,i) (tk hi ho)) (p,j) (tk hj hp);simp only[ht,hpt]at this;simpa using this
 ·have hm:(o,i)∈ops.toList.zipIdx.drop q:=by
   rw[List.mem_iff_getElem?];exact⟨i-q,by rw[lF,(om:q+(i-q)=i),List.getElem?_zipIdx,gl ho];simp⟩
  have:=aB.1 (aB.1 h5 (o,i) hm) j (by simpa using hj)
  simpa using this
theorem jA{o:Oper}{O O':Tm}(h:∀t∈jY o,O t=O' t):∀x,x∈o.op.operands.toList->ev O x=ev O' x:=by
 intro x hx
 cases x with
 | tmp t=>exact h t (by simp only[jY,iq];exact⟨.tmp t,hx,rfl⟩)
 | const v=>rfl
 | global g=>rfl
 | func f=>rfl
theorem dN.fresh{w:World}{S:St}(h:dN w S){b:Nat}(hb:w.heap.size<=b):S b=ac:=by
 cases e:S b with
 | none=>rfl
 | some X=>obtain⟨cs,h1,_⟩:=h b X e;exact absurd (dW h1) om
mutual
theorem bs.turn{M M':Nat->Prop}{w:World}(hm:∀k,k<w.heap.size->M' k->M k):∀(a:AV) (v:Value),bs w M a v->bs w M' a v
 | .int k n,v,h=>by simpa [bs]using h
 | .bool b,v,h=>by simpa [bs]using h
 | .big z,v,h=>by simpa [bs]using h
 | .nil,v,h=>by simpa [bs]using h
 | .sl es b off len,v,h=>by simpa [bs]using h
 | .ptr es b i,v,h=>by simpa [bs]using h
 | .lst es n g,v,h=>by
  simp only[bs]at h ⊢;obtain⟨A,c,h1,h2,h3⟩:=h;refine⟨A,c,h1,h2,fun hn=>?_⟩;obtain⟨b,off,e,hb,hmb,hj⟩:=h3 hn;refine⟨b,off,e,hb,fun hm'=>hmb (hm b hb hm'),fun j hjn=>?_⟩;obtain⟨u,hr,hu'⟩:=hj j hjn;exact⟨u,hr,bs.turn hm (g j) u hu'⟩
 | .pat es x,v,h=>by
  simp only[bs]at h ⊢;obtain⟨b,off,u,h1,hb,hmb,hr,hx⟩:=h;exact⟨b,off,u,h1,hb,fun hm'=>hmb (hm b hb hm'),hr,bs.turn hm x u hx⟩
 | .tup l,v,h=>by
  simp only[bs]at h ⊢;obtain⟨vs,h1,h2⟩:=h;exact⟨vs,h1,bq.turn hm l vs h2⟩
 | .agg l,v,h=>by
  simp only[bs]at h ⊢;obtain⟨vs,h1,h2⟩:=h;exact⟨vs,h1,bq.turn hm l vs h2⟩
 | .fn f l,v,h=>by
  simp only[bs]at h ⊢;obtain⟨vs,h1,h2⟩:=h;exact⟨vs,h1,bq.turn hm l vs h2⟩
 | .mag n,v,h=>by simpa [bs]using h
 | .fp b i f,v,h=>by simpa [bs]using h
 | .bset p,v,h=>by simpa [bs]using h
 | .any,v,h=>by simp[bs]
 | .nfn,v,h=>by simpa [bs]using h
 | .mfn f l,v,h=>by
  simp only[bs]at h ⊢;obtain⟨vs,h1,h2⟩:=h;exact⟨vs,h1,bq.turn hm l vs h2⟩
theorem bq.turn{M M':Nat->Prop}{w:World}(hm:∀k,k<w.heap.size->M' k->M k):∀(l:List AV) (vs:List Value),bq w M l vs->bq w M' l vs
 | [],[],_=>by simp[bq]
 | a::l,v::vs,h=>by
  simp only[bq]at h ⊢;exact⟨bs.turn hm a v h.1,bq.turn hm l vs h.2⟩
 | [],_::_,h=>by simp[bq]at h
 | _::_,[],h=>by simp[bq]at h
end
theorem cw.any{w w':World}(h:cw px px w w')(M:Nat->Prop):cw M M w w':=⟨h.os,h.tape,h.output,h.size,fun k hk _=>h.keep k hk (fun x=>x),h.shape,fun _ _ h=>h⟩
theorem dN.frozen{w w':World}{S:St}(h:dN w S)(hg:cw px px w w'):dN w' S:=fun b X hX=>by
 obtain⟨cs,h1,h2,h3,h4⟩:=h b X hX;exact⟨cs,(hg.keep b (dW h1) (fun x=>x)).trans h1,h2,fun j hj=>by obtain⟨u,h5,h6⟩:=h3 j hj;exact⟨u,h5,bs.grow h.noU (hg.any _) _ _ h6⟩,h4⟩
def Lh(w:World)(M:Nat->Prop)(S:St):Prop:=∀b x,S b=some x->∃cs,w.heap[b]? = some (.cells cs x.ty (0,0))/\x.es*x.n<=cs.size /\
 (∀j,j<x.n->∃u,reads cs (x.es*j) x.es u/\bs w M (x.g j) u)/\∀(k:Nat) (y:Value),cs[k]? = some y->kz y
def ZX(X:dH)(zc:Array Value):Prop:=X.es*X.n<=zc.size/\(∀w M j,j<X.n->∃u,reads zc (X.es*j) X.es u/\bs w M (X.g j) u)/\∀(k:Nat) (y:Value),zc[k]? = some y->kz y
theorem pn{w:World}{a:Act}{N B0:Nat}{M:Nat->Prop}{K:Tm->St->Prop}:∀(L:List (Nat×dH×Nat)) (O:Tm) (S:St),mh (L.map fun x=>(x.1,x.2.1)) O S K ->
  Lh w M S->(∀t,bs w M (O t) (a.tmps.getD t undef))->(∀x∈L,a.tmps.getD x.1 undef=.pointer (some ⟨x.2.2,0,ac⟩)/\∃zc,w.heap[x.2.2]? = some (.cells zc x.2.1.ty (0,0))/\ZX x.2.1 zc) ->
  (L.map (·.2.2)).Nodup->(∀x∈L,S x.2.2=ac/\B0<=x.2.2) ->
  ∃O' S',K O' S'/\Lh w M S'/\(∀t,bs w M (O' t) (a.tmps.getD t undef))/\∀k,S'.dom k->S.dom k∨B0<=k
 | [],O,S,h,h1,h2,_,_,_=>⟨O,S,by simpa [mh]using h,h1,h2,fun k hk=>bQ hk⟩
 | (d,X,b)::L,O,S,h,h1,h2,h3,h4,h5=>by
  simp only[cq,mh]at h;obtain⟨p1,zc,p2,p3,p4,p5⟩:=h3 (d,X,b) (er ..);obtain⟨q1,q2⟩:=h5 (d,X,b) (er ..);simp only at p1 p2 p3 p4 p5 q1 q2;simp only[cq,List.nodup_cons]at h4;obtain⟨O',S',r1,r2,r3,r4⟩:=pn (B0:=B0) (N:=N) L (O.put (some d) (.ptr X.es b 0)) (S.upd b X) (h b q1)
   (fun k Y hY=>by
    simp only[St.upd]at hY;by_cases e:k=b
    ·rw[if_pos e]at hY;cases hY;subst e;exact⟨zc,p2,p3,fun j hj=>p4 w M j hj,p5⟩
    ·rw[if_neg e]at hY;exact h1 k Y hY)
   (fun t=>by
    simp only[Tm.put_eq];by_cases e:t=d
    ·subst e;rw[if_pos rfl,p1];simp[bs]
    ·rw[if_neg e];exact h2 t)
   (fun x hx=>h3 x (dG _ hx)) h4.2
   (fun x hx=>by
    obtain⟨s1,s2⟩:=h5 x (dG _ hx);refine⟨?_,s2⟩;simp only[St.upd];rw[if_neg]
    ·exact s1
    ·intro e;exact h4.1 (by rw[<-e];exact fM.2 ⟨x,hx,rfl⟩))
  refine⟨O',S',r1,r2,r3,fun k hk=>?_⟩;rcases r4 k hk with h6|h6
  ·simp only[St.dom,St.upd]at h6 ⊢;by_cases e:k=b
   ·right;rw[e];exact q2
   ·rw[if_neg e]at h6;exact bQ h6
  ·exact bH h6
theorem jq{a:Act}{d:Option Nat}{v:Value}{t:Nat}(h:d≠some t):(a.put d v).tmps.getD t undef=a.tmps.getD t undef:=by
 cases d with
 | none=>rfl
 | some d =>
  simp only[Act.put,aJ];rw[cf (fun e=>h (by rw[e]))]
theorem put_eq{a:Act}{d:Nat}{v:Value}(h:d<a.tmps.size):(a.put (some d) v).tmps.getD d undef=v:=by
 simp[Act.put,Array.getD,h]
theorem jy{a:Act}{d:Option Nat}{v:Value}:(a.put d v).tmps.size=a.tmps.size:=by cases d<;>simp[Act.put]
theorem hJ{a:Act}{d:Option Nat}{v:Value}:(a.put d v).defers=a.defers:=by cases d<;>simp[Act.put]
structure oP(ops:Array Oper)(q:Nat)(S:St)(O1:Tm)(al:Nat->Option dH)(N:Nat)(a0:Act)(w0:World)(listed:Array Bool)(a:Act)(w:World):Prop where
 size:listed.size=ops.size
 tailU:∀i,q<=i->i<ops.size->listed.getD i true=false
 defers:a.defers=[]
 tsize:a.tmps.size=N
 gr:cw px px w0 w
 tm:∀t,(∀(j:Nat) (o:Oper),j<q->ops[j]? = some o->o.dst=some t->listed.getD j false=true)->bs w S.dom (O1 t) (a.tmps.getD t undef)
 old:∀t,(∀(j:Nat) (o:Oper),j<q->ops[j]? = some o->o.dst≠some t)->a.tmps.getD t undef=a0.tmps.getD t undef
 news:∃B:Nat->Nat,(∀(i:Nat) (o:Oper) (X:dH) (d:Nat),i<q->ops[i]? = some o->al i=some X->o.dst=some d->listed.getD i false=true ->
   a.tmps.getD d undef=.pointer (some ⟨B i,0,ac⟩)/\w0.heap.size<=B i/\∃zc,w.heap[B i]? = some (.cells zc X.ty (0,0))/\ZX X zc) /\
  ∀i j,i<q->j<q->(al i).isSome=true->(al j).isSome=true->listed.getD i false=true->listed.getD j false=true->B i=B j->i=j
structure Ar(ops:Array Oper)(q:Nat)(K:Tm->St->Prop)(D:Nat->Prop)(N:Nat)(w0:World)(listed:Array Bool)(a:Act)(w:World):Prop where
 ex:∃k,q<=k/\k<=ops.size/\listed.size=ops.size/\(∀i,i<ops.size->(listed.getD i true=true↔i<k))/\∃O S,tR ops (ops.toList.drop k) O S K/\RT O S N a w/\cw D S.dom w0 w
theorem nZ{α β:Type}{f:α->β}:∀{l:List α},l.Nodup->(∀x∈l,∀y∈l,f x=f y->x=y)->(l.map f).Nodup
 | [],_,_=>by simp
 | a::l,h,hf=>by
  simp only[List.nodup_cons]at h;simp only[cq,List.nodup_cons,fM,not_exists,not_and];refine⟨fun x hx e=>?_,nZ h.2 (fun x hx y hy=>hf x (dG _ hx) y (dG _ hy))⟩;have:=hf x (dG _ hx) a (er ..) e;subst this;exact h.1 hx
theorem ns(n i:Nat):(iJ n false).getD i false=false:=by
 rw[aJ,Array.getElem?_replicate];split<;>rfl
theorem zG{n i:Nat}(h:i<n):(iJ n false).getD i true=false:=by
 rw[aJ,Array.getElem?_replicate,if_pos h];rfl
theorem FJ{ops:Array Oper}{N id:Nat}{Q:Exit->Act->World->Prop}{K:Tm->St->Prop}{O:Tm}{S:St}{a:Act}{w:World}(h:awD ops O S K)(hr:RT O S N a w)(hd:qk N ops.toList=true)
  (hq:∀O' S' a' w',K O' S'->RT O' S' N a' w'->cw S.dom S'.dom w w'->Q .normal a' w'):(Code.region id ops true).wp aj Q a w:=by
 obtain⟨q,hok,hH⟩:=h;have D:=BP hok;have hlen:(ops.toList.take q).length=q:=by rw[eC];have:=D.le;simp;omega
 obtain⟨Os,al,e0,hK,hi⟩:=nI _ _ _ _ _ hH;rw[hlen]at hK;have hi':∀(i:Nat) (o:Oper),i<q->ops[i]? = some o->(∃t d X,o.op=.alloc t/\o.dst=some d/\kT t=some X/\al i=some X/\Os (i+1)=(Os i).put (some d) .any) ∨
   (al i=ac/\∃z,xa o (Os i) S z/\Os (i+1)=(Os i).put o.dst z):=fun i o hiq ho=>hi i o (by rw[eR,if_pos hiq];simpa using ho)
 have step_ne:∀i o t,i<q->ops[i]? = some o->o.dst≠some t->Os (i+1) t=Os i t:=by
  intro i o t hiq ho ht;rcases hi' i o hiq ho with⟨_,d,X,_,h2,_,_,h5⟩|⟨_,z,_,h5⟩
  ·rw[h5];simp only[Tm.put_eq];rw[if_neg];intro e;exact ht (by rw[h2,e])
  ·rw[h5]
   cases hdo:o.dst with
   | none=>rw[Tm.put_eq]
   | some d=>simp only[Tm.put_eq];rw[if_neg];intro e;exact ht (by rw[hdo,e])
 have stable:∀t k i,i<=k->k<=q->(∀j o,i<=j->j<k->ops[j]? = some o->o.dst≠some t)->Os k t=Os i t:=by
  intro t k
  induction k with
  | zero=>intro i h1 _ _;rw[(om:i=0)]
  | succ k ih =>
   intro i h1 h2 h3;by_cases e:i=k+1
   ·rw[e]
   ·have hk:k<ops.size:=by have:=D.le;omega
    rw[step_ne k ops[k] t om (aG hk) (h3 k _ om om (aG hk))];exact ih i om om (fun j o hj1 hj2 ho=>h3 j o hj1 om ho)
 have w0s:dN w.drew S:=hr.st.drew;have r0:RT O S N a w.drew:=⟨hr.defers,hr.size,fun t=>bs.grow hr.st.noU (cw.drew _ w) _ _ (hr.tm t),w0s⟩;have dstN:∀(i:Nat) (o:Oper) (d:Nat),ops[i]? = some o->o.dst=some d->d<N:=by
  intro i o d ho hdd;have:=aB.1 hd o (cC (by simpa using ho:ops.toList[i]? = some o))
  rw[hdd]at this;simpa using this
 have HT:∀listed a' w',oP ops q S (Os q) al N a w.drew listed a' w'->(∀j,j<q->listed.getD j false=true)->Ar ops q K S.dom N w.drew listed a' w':=by
  intro listed a' w' H hall;have hS:dN w' S:=w0s.frozen H.gr;have htm:∀t,bs w' S.dom (Os q t) (a'.tmps.getD t undef):=fun t=>H.tm t (fun j o hj _ _=>hall j hj);refine⟨q,ah _,D.le,H.size,fun i hio=>?_,?_⟩
  ·constructor
   ·intro h1;rcases aI i q with h2|h2
    ·exact h2
    ·rw[H.tailU i h2 hio]at h1;cases h1
   ·intro h1;have:=hall i h1;rw[aJ]at this ⊢
    cases hl:listed[i]? with
    | none=>rw[hl]at this;cases this
    | some b=>rw[hl]at this;exact this
  ·generalize hpe:(([]:List (Nat×dH))++(cn q).filterMap (fun i=>(al i).bind fun X=>((ops.toList.take q)[i]?).bind fun o=>o.dst.map fun d=>(d,X)))=pend at hK;by_cases hem:pend.isEmpty=true
   ·simp only[hem,if_true]at hK;exact⟨_,S,hK,⟨H.defers,H.tsize,htm,hS⟩,H.gr.any _⟩
   ·simp only[hem]at hK;obtain⟨B,hB1,hB2⟩:=H.news
    let idx:=(cn q).filter (fun i=>((al i).bind fun X=>((ops.toList.take q)[i]?).bind fun o=>o.dst.map fun d=>(d,X)).isSome)
    let f:Nat->Nat×dH×Nat:=fun i=>match ((al i).bind fun X=>((ops.toList.take q)[i]?).bind fun o=>o.dst.map fun d=>(d,X))with
     | some (d,X)=>(d,X,B i)
     | ac=>(0,⟨0,0,0,fun _=>.any⟩,B i)
    have hidx:∀i∈idx,∃o X d,i<q/\ops[i]? = some o/\al i=some X/\o.dst=some d/\f i=(d,X,B i):=by
     intro i hii;simp only[idx,oC,eQ]at hii;obtain⟨h1,h2⟩:=hii;obtain⟨p,hp⟩:=Option.isSome_iff_exists.1 h2;have hf:f i=(p.1,p.2,B i):=by simp only[f,hp]
     simp only[Option.bind_eq_some_iff,cr]at hp;obtain⟨X,hX,o,ho,d,hd1,hd2⟩:=hp;rw[eR,if_pos h1]at ho;refine⟨o,X,d,h1,by simpa using ho,hX,hd1,?_⟩
     rw[hf,<-hd2]
    have hpend:pend=(idx.map f).map fun x=>(x.1,x.2.1):=by
     rw[<-hpe,lw,List.map_map];simp only[idx];generalize cn q=rg
     induction rg with
     | nil=>rfl
     | cons i rg ih =>
      simp only[List.filterMap_cons,List.filter_cons]
      cases hc:((al i).bind fun X=>((ops.toList.take q)[i]?).bind fun o=>o.dst.map fun d=>(d,X))with
      | none=>simp only[Option.isSome_none,aR,if_false];exact ih
      | some p=>simp only[Option.isSome_some,if_true,cq];rw[<-ih];simp only[Function.comp,f,hc]
    rw[hpend]at hK
    let M:Nat->Prop:=fun b=>S.dom b∨w.drew.heap.size<=b
    have hnuM:M6 M w.drew:=by
     intro b hb cs ty fr hc;rcases hb with hb|hb
     ·exact w0s.noU b hb cs ty fr hc
     ·exact absurd (dW hc) om
    have up:∀x v,bs w.drew S.dom x v->bs w' M x v:=fun x v hx =>
     bs.grow hnuM (H.gr.any M) x v (bs.turn (M:=S.dom) (M':=M) (fun k hk hm=>by
      rcases hm with hm|hm
      ·exact hm
      ·omega) x v hx)
    have hres:=pn (a:=a') (w:=w') (N:=N) (B0:=w.drew.heap.size) (M:=M) (idx.map f) _ S hK
     (fun b X hX=>by
      obtain⟨cs,h1,h2,h3,h4⟩:=w0s b X hX;exact⟨cs,(H.gr.keep b (dW h1) (fun x=>x)).trans h1,h2,fun j hj=>by obtain⟨u,h5,h6⟩:=h3 j hj;exact⟨u,h5,up _ _ h6⟩,h4⟩)
     (fun t=>by
      simp only[rm];by_cases hin:(lf (ops.toList.take q)).contains t=true
      ·by_cases hmf:oG (Os q t)=true
       ·simp only[hmf,yY,Bool.and_false,aR,if_false];exact oa hmf (htm t)
       ·simp only[hin,hmf,pD,Bool.and_self,if_true];simp[bs]
      ·simp only[hin,Bool.false_and,aR,if_false];have hno:∀(j:Nat) (o:Oper),j<q->ops[j]? = some o->o.dst≠some t:=by
        intro j o hj ho hdt;apply hin;simp only[lf,List.contains_iff_mem,iq];exact⟨o,cC (i:=j) (by rw[eR,if_pos hj];simpa using ho),hdt⟩
       rw[H.old t hno,stable t q 0 om (ah _) (fun j o _ hj ho=>hno j o hj ho),e0];exact up _ _ (r0.tm t))
     (fun x hx=>by
      obtain⟨i,hii,rfl⟩:=fM.1 hx;obtain⟨o,X,d,h1,h2,h3,h4,h5⟩:=hidx i hii;rw[h5];obtain⟨g1,g2,g3⟩:=hB1 i o X d h1 h2 h3 h4 (hall i h1);exact⟨g1,g3⟩)
     (by
      rw[List.map_map];refine nZ (List.Pairwise.filter _ List.nodup_range) (fun i hii j hjj e=>?_);obtain⟨o,X,d,h1,h2,h3,h4,h5⟩:=hidx i hii;obtain⟨o',X',d',h1',h2',h3',h4',h5'⟩:=hidx j hjj;simp only[Function.comp,h5,h5']at e;exact hB2 i j h1 h1' (by rw[h3];rfl) (by rw[h3'];rfl) (hall i h1) (hall j h1') e)
     (fun x hx=>by
      obtain⟨i,hii,rfl⟩:=fM.1 hx;obtain⟨o,X,d,h1,h2,h3,h4,h5⟩:=hidx i hii;rw[h5];obtain⟨g1,g2,g3⟩:=hB1 i o X d h1 h2 h3 h4 (hall i h1);exact⟨w0s.fresh g2,g2⟩)
    obtain⟨O',S',k1,k2,k3,k4⟩:=hres;have hdom:∀k,k<w'.heap.size->S'.dom k->M k:=fun k _ hk=>k4 k hk;refine⟨O',S',k1,⟨H.defers,H.tsize,fun t=>bs.turn hdom _ _ (k3 t),fun b X hX=>?_⟩,?_⟩
    ·obtain⟨cs,h1,h2,h3,h4⟩:=k2 b X hX;exact⟨cs,h1,h2,fun j hj=>by obtain⟨u,h5,h6⟩:=h3 j hj;exact⟨u,h5,bs.turn hdom _ _ h6⟩,h4⟩
    ·refine⟨H.gr.os,H.gr.tape,H.gr.output,H.gr.size,fun k hk _=>H.gr.keep k hk (fun x=>x),H.gr.shape,fun k hk hm=>?_⟩;rcases k4 k hm with h6|h6
     ·exact h6
     ·exact absurd hk om
 have tailStep:∀listed a' w' i,Ar ops q K S.dom N w.drew listed a' w'->fY ops listed->i∈cK .any ops listed->wpOp aj ops Q i (fun a'' w''=>oP ops q S (Os q) al N a w.drew (listed.setIfInBounds i true) a'' w''∨Ar ops q K S.dom N w.drew (listed.setIfInBounds i true) a'' w'') a' w':=by
  intro listed a' w' i T hcl hi;obtain⟨k,hk1,hk2,hsz,hl,O',S',hL,hR,hG⟩:=T.ex;obtain⟨o,ho,hun,haft⟩:=dA hi;have hio:i<ops.size:=(bS.1 ho).1;have hik:i=k:=by
   rcases db i k with h1|h1|h1
   ·rw[(hl i hio).2 h1]at hun;cases hun
   ·exact h1
   ·have h2:listed.getD k false=true:=(D.tail i o om ho k h1).elim (haft k) (eU hcl 12 k i o ho haft);have h3:listed.getD k true=true:=by
     rw[aJ]at h2 ⊢
     cases hx:listed[k]? with
     | none=>rw[hx]at h2;cases h2
     | some b=>rw[hx]at h2;exact h2
    have:=(hl k om).1 h3;omega
  subst hik;have hdrop:ops.toList.drop i=o::ops.toList.drop (i+1):=by
   have h1:ops.toList[i]? = some o:=by simpa using ho
   rw[iH (by simpa using hio)]
   congr 1;have:=cO.1 h1;exact this.2
  rw[hdrop]at hL;unfold tR at hL;rw[D.guard i o ho]at hL;unfold wpOp;simp only[ho];rw[if_pos (by simp[eB,D.guard i o ho])]
  refine bQ (kU hL hR (fun z v w'' S'' hz hv hs hg=>bH ⟨i+1,om,om,by simp[hsz],fun j hj=>?_,_,S'',hz,hR.put hg hs (fun d hdd=>dstN i o d ho hdd) hv,hG.trans hg⟩))
  rw[ci _ _ _ _ om];by_cases e:j=i
  ·subst e;simp
  ·rw[if_neg e,hl j hj];omega
 have headStep:∀listed a' w' i,oP ops q S (Os q) al N a w.drew listed a' w'->fY ops listed->i∈cK .any ops listed->wpOp aj ops Q i (fun a'' w''=>oP ops q S (Os q) al N a w.drew (listed.setIfInBounds i true) a'' w''∨Ar ops q K S.dom N w.drew (listed.setIfInBounds i true) a'' w'') a' w':=by
  intro listed a' w' i H hcl hi;obtain⟨o,ho,hun,haft⟩:=dA hi;have hio:i<ops.size:=(bS.1 ho).1;have hils:i<listed.size:=by rw[H.size];exact hio
  rcases aI i q with hiq|hiq
  ·have hset:∀j d,(listed.setIfInBounds i true).getD j d=if j=i then true else listed.getD j d:=fun j d=>ci _ _ _ _ hils
   have gr2:∀{w'':World},cw px px w' w''->cw px px w.drew w'':=fun hg=>H.gr.trans hg;have hS:dN w' S:=w0s.frozen H.gr;have mk:∀(v:Value) (w'':World),cw px px w' w''->(∀d,o.dst=some d->bs w'' S.dom (Os q d) v) ->
     (∃B:Nat->Nat,(∀(j:Nat) (p:Oper) (X:dH) (d:Nat),j<q->ops[j]? = some p->al j=some X->p.dst=some d->(listed.setIfInBounds i true).getD j false=true ->
       (a'.put o.dst v).tmps.getD d undef=.pointer (some ⟨B j,0,ac⟩)/\w.drew.heap.size<=B j/\∃zc,w''.heap[B j]? = some (.cells zc X.ty (0,0))/\ZX X zc) /\
      ∀j k,j<q->k<q->(al j).isSome=true->(al k).isSome=true->(listed.setIfInBounds i true).getD j false=true->(listed.setIfInBounds i true).getD k false=true->B j=B k->j=k) ->
     oP ops q S (Os q) al N a w.drew (listed.setIfInBounds i true) (a'.put o.dst v) w'':=by
    intro v w'' hg hz hB;refine⟨by simp[H.size],fun j hj1 hj2=>?_,by rw[hJ];exact H.defers,by rw[jy];exact H.tsize,gr2 hg,fun t ht=>?_,fun t ht=>?_,hB⟩
    ·rw[hset,if_neg om];exact H.tailU j hj1 hj2
    ·by_cases e:o.dst=some t
     ·rw[e,put_eq (by rw[H.tsize];exact dstN i o t ho e)]
      exact hz t e
     ·rw[jq e];refine bs.grow hS.noU (hg.any _) _ _ (H.tm t (fun j p hj hp hpt=>?_));have:=ht j p hj hp hpt;rw[hset]at this;by_cases e2:j=i
      ·subst e2;rw[ho]at hp;cases hp;exact absurd hpt e
      ·rw[if_neg e2]at this;exact this
    ·rw[jq (ht i o hiq ho)];exact H.old t ht
   rcases hi' i o hiq ho with⟨t,d,X,hop,hdst,hX,hal,hO⟩|⟨hal,z,hz,hO⟩
   ·obtain⟨zc,z1,z2,z3⟩:=yN hX;unfold wpOp;simp only[ho];rw[if_pos (by simp[eB,D.guard i o ho])]
    refine bQ (fL (v:=.pointer (some ⟨w'.heap.size,0,ac⟩)) (w':=w'.alloc (.cells zc t)) (by simp[execOp,hop,z2 w']) (bQ ?_))
    have hg:cw px px w' (w'.alloc (.cells zc t)):=⟨rfl,rfl,rfl,sm,fun k hk _=>m9 w' _ k hk,fun k cs ty fr hc=>⟨cs,by rw[m9 w' _ k (dW hc)];exact hc,rfl⟩,fun _ _ h=>h⟩
    obtain⟨B,hB1,hB2⟩:=H.news;have hBlt:∀(j:Nat) (p:Oper) (Y:dH) (e:Nat),j<q->ops[j]? = some p->al j=some Y->p.dst=some e->listed.getD j false=true->B j<w'.heap.size:=by
     intro j p Y e h1 h2 h3 h4 h5;obtain⟨_,_,zc',hz',_⟩:=hB1 j p Y e h1 h2 h3 h4 h5;exact dW hz'
    have hdsome:∀(j:Nat),j<q->(al j).isSome=true->∃p Y e,ops[j]? = some p/\al j=some Y/\p.dst=some e:=by
     intro j hj hs;have hjs:j<ops.size:=by have:=D.le;omega
     rcases hi' j ops[j] hj (aG hjs)with⟨_,e,Y,_,h2,_,h4,_⟩|⟨h4,_⟩
     ·exact⟨ops[j],Y,e,aG hjs,h4,h2⟩
     ·rw[h4]at hs;cases hs
    refine mk _ _ hg (fun d' hd'=>?_) ⟨fun j=>if j=i then w'.heap.size else B j,fun j p Y e h1 h2 h3 h4 h5=>?_,fun j k h1 h2 h3 h4 h5 h6 h7=>?_⟩
    ·rw[hdst]at hd';cases hd';have:Os q d=.any:=by
      rw[stable d q (i+1) om (ah _) (fun j p hj1 hj2 hp hpd=>by
       have:=D.apart i o j p d hiq hj2 ho hp hdst hpd;omega),hO]
      simp[Tm.put_eq]
     rw[this];simp[bs]
    ·by_cases e2:j=i
     ·subst e2;rw[ho]at h2;cases h2;rw[hdst]at h4;cases h4;rw[hal]at h3;cases h3;simp only[if_true];refine⟨by rw[hdst,put_eq (by rw[H.tsize];exact dstN j o d ho hdst)],H.gr.size,zc,?_,z3⟩
      rw[z1];exact heap_alloc_new w' _
     ·simp only[if_neg e2];rw[hset,if_neg e2]at h5;obtain⟨g1,g2,zc',g3,g4⟩:=hB1 j p Y e h1 h2 h3 h4 h5;refine⟨?_,g2,zc',?_,g4⟩
      ·rw[jq]
       ·exact g1
       ·intro e3;exact e2 (D.apart j p i o e h1 hiq h2 ho h4 e3)
      ·rw[m9 w' _ _ (dW g3)];exact g3
    ·rw[hset]at h5 h6;by_cases e1:j=i
     ·by_cases e2:k=i
      ·rw[e1,e2]
      ·simp only[if_pos e1,if_neg e2]at h7;rw[if_neg e2]at h6;obtain⟨p,Y,e,b1,b2,b3⟩:=hdsome k h2 h4;have:=hBlt k p Y e h2 b1 b2 b3 h6;omega
     ·by_cases e2:k=i
      ·simp only[if_neg e1,if_pos e2]at h7;rw[if_neg e1]at h5;obtain⟨p,Y,e,b1,b2,b3⟩:=hdsome j h1 h3;have:=hBlt j p Y e h1 b1 b2 b3 h5;omega
      ·simp only[if_neg e1,if_neg e2]at h7;rw[if_neg e1]at h5;rw[if_neg e2]at h6;exact hB2 j k h1 h2 h3 h4 h5 h6 h7
   ·classical
    let Oe:Tm:=fun t=>if (∀(j:Nat) (p:Oper),j<q->ops[j]? = some p->p.dst=some t->listed.getD j false=true)then Os q t else .any
    have hRe:RT Oe S N a' w':=⟨H.defers,H.tsize,fun t=>by
     simp only[Oe];split
     ·rename_i hc;exact H.tm t hc
     ·simp[bs],hS⟩
    have hze:xa o Oe S z:=kX (jA fun t ht=>by
     have hc:∀(j:Nat) (p:Oper),j<q->ops[j]? = some p->p.dst=some t->listed.getD j false=true:=fun j p hj hp hpt =>
      haft j (D.reads i o j p t hiq hj ho hp hpt ht).2
     simp only[Oe];rw[if_pos hc,stable t q i om (ah _) (fun j p hj1 hj2 hp hpt=>by
      have:=(D.reads i o j p t hiq hj2 ho hp hpt ht).1;omega)]) hz
    unfold wpOp;simp only[ho];rw[if_pos (by simp[eB,D.guard i o ho])]
    refine bQ (lY hze hRe (fun v w'' hv hg=>bQ ?_));obtain⟨B,hB1,hB2⟩:=H.news;refine mk v w'' hg (fun d hdd=>?_) ⟨B,fun j p Y e h1 h2 h3 h4 h5=>?_,fun j k h1 h2 h3 h4 h5 h6 h7=>?_⟩
    ·have:Os q d=z:=by
      rw[stable d q (i+1) om (ah _) (fun j p hj1 hj2 hp hpd=>by
       have:=D.apart i o j p d hiq hj2 ho hp hdd hpd;omega),hO,hdd]
      simp[Tm.put_eq]
     rw[this];exact hv
    ·have hji:j≠i:=fun e2=>by subst e2;rw[hal]at h3;cases h3
     rw[hset,if_neg hji]at h5;obtain⟨g1,g2,zc',g3,g4⟩:=hB1 j p Y e h1 h2 h3 h4 h5;refine⟨?_,g2,zc',(hg.keep _ (dW g3) (fun x=>x)).trans g3,g4⟩;rw[jq]
     ·exact g1
     ·intro e3;exact hji (D.apart j p i o e h1 hiq h2 ho h4 e3)
    ·rw[hset]at h5 h6;have hji:j≠i:=fun e2=>by subst e2;rw[hal]at h3;cases h3
     have hki:k≠i:=fun e2=>by subst e2;rw[hal]at h4;cases h4
     rw[if_neg hji]at h5;rw[if_neg hki]at h6;exact hB2 j k h1 h2 h3 h4 h5 h6 h7
  ·have hall:∀j,j<q->listed.getD j false=true:=fun j hj=>(D.tail i o hiq ho j om).elim (haft j) (eU hcl 12 j i o ho haft);exact tailStep listed a' w' i (HT listed a' w' H hall) hcl hi
 have first:∀listed,listed.size=ops.size->cK .any ops listed=[]->∀m,m<=ops.size->∀j,j<m->listed.getD j false=true:=by
  intro listed hsz hre m
  induction m with
  | zero=>intro _ j hj;omega
  | succ m ih =>
   intro hm j hj;by_cases e:j<m
   ·exact ih om j e
   ·obtain rfl:j=m:=om
    have hjo:j<ops.size:=om
    cases hv:listed.getD j false with
    | true=>rfl
    | false =>
     have hj2:listed.getD j true=false:=by
      rw[aJ,aG om]at hv ⊢;exact hv
     have:j∈cK .any ops listed:=oZ (aG hjo) hj2 (fun k hk=>ih om k (D.back j _ (aG hjo) k hk));rw[hre]at this;cases this
 refine wp_region_any kr (ji (fun listed a' w'=>fY ops listed/\(oP ops q S (Os q) al N a w.drew listed a' w'∨Ar ops q K S.dom N w.drew listed a' w')) ?_ ?_ ops.size _ a w.drew ?_ ⟨fun i o ho h=>?_,bQ ?_⟩)
 ·intro listed a' w' i hI hi;obtain⟨hcl,hI⟩:=hI;have hcl':fY ops (listed.setIfInBounds i true):=by
   obtain⟨o,ho,hun,haft⟩:=dA hi;have hgo:∀k,listed.getD k false=true->(listed.setIfInBounds i true).getD k false=true:=fun k hk=>by
    rw[aJ]at hk ⊢;rw[oE];split
    ·split<;>simp_all
    ·exact hk
   intro j p hp hj k hk;by_cases e:j=i
   ·subst e;rw[ho]at hp;cases hp;exact hgo k (haft k hk)
   ·refine hgo k (hcl j p hp ?_ k hk);rw[aJ]at hj ⊢
    rwa [cf (ao e)]at hj
  have e:(fun a'' w''=>fY ops (listed.setIfInBounds i true)/\(oP ops q S (Os q) al N a w.drew (listed.setIfInBounds i true) a'' w''∨Ar ops q K S.dom N w.drew (listed.setIfInBounds i true) a'' w''))=fun a'' w''=>(oP ops q S (Os q) al N a w.drew (listed.setIfInBounds i true) a'' w''∨Ar ops q K S.dom N w.drew (listed.setIfInBounds i true) a'' w''):=by
   funext a'' w'';simp[hcl']
  show wpOp aj ops Q i (fun a'' w''=>fY ops (listed.setIfInBounds i true)/\(oP ops q S (Os q) al N a w.drew (listed.setIfInBounds i true) a'' w''∨Ar ops q K S.dom N w.drew (listed.setIfInBounds i true) a'' w'')) a' w';rw[e];rcases hI with H|T
  ·exact headStep listed a' w' i H hcl hi
  ·exact tailStep listed a' w' i T hcl hi
 ·rintro listed a' w' ⟨_,hI⟩ hre;have fin:Ar ops q K S.dom N w.drew listed a' w'->Q .normal a' w':=by
   intro T;obtain⟨k,hk1,hk2,hsz,hl,O',S',hL,hR,hG⟩:=T.ex;have hall:=first listed hsz hre ops.size (ah _)
   have hk:k=ops.size:=by
    rcases aI k ops.size with h1|h1
    ·have h2:=hall k h1;have h3:listed.getD k true=true:=by
      rw[aJ]at h2 ⊢
      cases hx:listed[k]? with
      | none=>rw[hx]at h2;cases h2
      | some b=>rw[hx]at h2;exact h2
     have:=(hl k h1).1 h3;omega
    ·omega
   rw[hk,fU sm]at hL
   exact hq O' S' a' w' hL hR ((cw.drew S.dom w).trans hG)
  rcases hI with H|T
  ·exact fin (HT listed a' w' H (fun j hj=>first listed H.size hre ops.size (ah _) j (by have:=D.le;omega)))
  ·exact fin T
 ·simp only[IY];exact bV mJ sm
 ·rw[ns]at h;cases h
 ·refine⟨sm,fun i _ hi2=>zG hi2,hr.defers,hr.size,cw.refl _ _,fun t ht=>?_,fun _ _=>rfl,fun _=>0,fun i o X d h1 h2 h3 h4 h5=>?_,fun i j h1 h2 h3 h4 h5 h6 h7=>?_⟩
  ·have hno:∀(j:Nat) (o:Oper),j<q->ops[j]? = some o->o.dst≠some t:=by
    intro j o hj ho hdt;have:=ht j o hj ho hdt;rw[ns]at this;cases this
   rw[stable t q 0 om (ah _) (fun j o _ hj ho=>hno j o hj ho),e0];exact r0.tm t
  ·rw[ns]at h5;cases h5
  ·rw[ns]at h5;cases h5
def Hd(l:List Oper)(q j:Nat):Bool:=decide (j<q)&&(match l[j]? with
 | some o=>(match o.op,o.dst with
  | .move _,some d=>(l.zipIdx.drop q).all (fun p=>(match p.1.dst with
    | some t=>!(jY o).contains t&&decide (t≠d)
    | ac=>true)&&(!(jY p.1).contains d||(aft p.1).contains j))
  | _,_=>false)
 | ac=>false)
def EC(ops:Array Oper)(q:Nat):Bool :=
 let l:=ops.toList
 l.all (fun o=>o.guard.isNone) &&
 l.zipIdx.all (fun p=>(aft p.1).all (fun k=>decide (k<p.2))) &&
 (l.take q).zipIdx.all (fun p=>(l.take q).zipIdx.all (fun r=>match r.1.dst with
  | some t=>!(jY p.1).contains t||(decide (r.2<p.2)&&(aft p.1).contains r.2)
  | ac=>true)) &&
 (l.take q).zipIdx.all (fun p=>(l.take q).zipIdx.all (fun r=>decide (p.2=r.2)||p.1.dst.isNone||p.1.dst != r.1.dst)) &&
 (l.zipIdx.drop q).all (fun p=>(cn p.2).all (fun j=>(aft p.1).contains j||Hd l q j||oF ops 12 j p.2)) &&
 decide (q<=l.length)
def awF(ops:Array Oper)(O:Tm)(S:St)(K:Tm->St->Prop):Prop:=∃q,EC ops q=true /\
 Ah (ops.toList.take q) O S [] (fun O' pend=>pend.isEmpty=true/\tR ops (ops.toList.drop q) O' S K)
structure AB(ops:Array Oper)(q j:Nat)(x:Operand)(d:Nat):Prop where
 lt:j<q
 op:∃o,ops[j]? = some o/\o.op=.move x/\o.dst=some d
 tail:∀(i:Nat) (p:Oper),q<=i->ops[i]? = some p->(∀t,p.dst=some t->x≠.tmp t/\t≠d)/\(d∈jY p->j∈aft p)
structure FOK(ops:Array Oper)(q:Nat):Prop where
 guard:∀(i:Nat) (o:Oper),ops[i]? = some o->o.guard=ac
 back:∀(i:Nat) (o:Oper),ops[i]? = some o->∀k∈aft o,k<i
 reads:∀(i:Nat) (o:Oper) (j:Nat) (p:Oper) (t:Nat),i<q->j<q->ops[i]? = some o->ops[j]? = some p->p.dst=some t->t∈jY o->j<i/\j∈aft o
 apart:∀(i:Nat) (o:Oper) (j:Nat) (p:Oper) (t:Nat),i<q->j<q->ops[i]? = some o->ops[j]? = some p->o.dst=some t->p.dst=some t->i=j
 tail:∀(i:Nat) (o:Oper),q<=i->ops[i]? = some o->∀j,j<i->(j∈aft o∨oF ops 12 j i=true)∨∃x d,AB ops q j x d
 le:q<=ops.size
theorem De{ops:Array Oper}{q:Nat}(h:EC ops q=true):FOK ops q:=by
 simp only[EC,aA,decide_eq_true_eq]at h;obtain⟨⟨⟨⟨⟨h1,h2⟩,h3⟩,h4⟩,h5⟩,h6⟩:=h;have gl:∀{i:Nat} {o:Oper},ops[i]? = some o->ops.toList[i]? = some o:=fun h=>by simpa using h
 have tk:∀{i:Nat} {o:Oper},i<q->ops[i]? = some o->(o,i)∈(ops.toList.take q).zipIdx:=fun hi ho=>gn (by rw[eR,if_pos hi];exact gl ho)
 have dm:∀{i:Nat} {o:Oper},q<=i->ops[i]? = some o->(o,i)∈ops.toList.zipIdx.drop q:=fun {i o} hi ho=>by
  rw[List.mem_iff_getElem?];exact⟨i-q,by rw[lF,(om:q+(i-q)=i),List.getElem?_zipIdx,gl ho];simp⟩
 refine⟨fun i o ho=>?_,fun i o ho k hk=>?_,fun i o j p t hi hj ho hp ht hl=>?_,fun i o j p t hi hj ho hp ht hpt=>?_,fun i o hi ho j hj=>?_,by simpa using h6⟩
 ·have:=aB.1 h1 o (cC (gl ho));simpa using this
 ·have:=aB.1 (aB.1 h2 (o,i) (gn (gl ho))) k hk;simpa using this
 ·have:=aB.1 (aB.1 h3 (o,i) (tk hi ho)) (p,j) (tk hj hp);simp only[ht]at this;simp only[dj,fF,aA,decide_eq_true_eq]at this;rcases this with h7|h7
  ·simp at h7;exact absurd hl h7
  ·exact⟨h7.1,by simpa using h7.2⟩
 ·have:=aB.1 (aB.1 h4 (o,i) (tk hi ho)) (p,j) (tk hj hp);simp only[ht,hpt]at this;simpa using this
 ·have:=aB.1 (aB.1 h5 (o,i) (dm hi ho)) j (by simpa using hj)
  simp only[dj]at this;rcases this with (h7|h7)|h7
  ·exact bQ (bQ (by simpa using h7))
  ·right;simp only[Hd,aA,decide_eq_true_eq]at h7;obtain⟨hjq,h7⟩:=h7
   cases hoj:ops.toList[j]? with
   | none=>rw[hoj]at h7;cases h7
   | some oj =>
    rw[hoj]at h7;simp only at h7;split at h7
    ·rename_i x d hop hds;refine⟨x,d,hjq,⟨oj,by simpa using hoj,hop,hds⟩,fun i' p hi' hp=>?_⟩
     have h8:=aB.1 h7 (p,i') (dm hi' hp);simp only[aA,dj,fF]at h8;refine⟨fun t ht=>?_,fun hd=>?_⟩
     ·have h9:=h8.1;rw[ht]at h9;simp only[aA,fF,decide_eq_true_eq]at h9;refine⟨?_,h9.2⟩;rintro rfl;have:t∈jY oj:=by simp only[jY,hop,Op.operands,iq];exact⟨.tmp t,sm,rfl⟩
      have h10:=h9.1;simp at h10;exact h10 this
     ·rcases h8.2 with h9|h9
      ·simp at h9;exact absurd hd h9
      ·simpa using h9
    ·cases h7
  ·exact bQ (bH h7)
structure lM(ops:Array Oper)(q:Nat)(S:St)(O1:Tm)(N:Nat)(w0:World)(listed:Array Bool)(a:Act)(w:World):Prop where
 size:listed.size=ops.size
 tailU:∀i,q<=i->i<ops.size->listed.getD i true=false
 defers:a.defers=[]
 tsize:a.tmps.size=N
 gr:cw px px w0 w
 tm:∀t,(∀(j:Nat) (o:Oper),j<q->ops[j]? = some o->o.dst=some t->listed.getD j false=true)->bs w S.dom (O1 t) (a.tmps.getD t undef)
def Mw(ops:Array Oper)(q:Nat)(listed:Array Bool)(t:Nat):Prop:=∃j x,listed.getD j true=false/\AB ops q j x t
structure rS(ops:Array Oper)(q:Nat)(K:Tm->St->Prop)(D:Nat->Prop)(N:Nat)(w0:World)(listed:Array Bool)(a:Act)(w:World):Prop where
 ex:∃k O S,q<=k/\k<=ops.size/\listed.size=ops.size/\(∀i,q<=i->i<ops.size->(listed.getD i true=true↔i<k)) /\
  (∀j,j<q->listed.getD j true=false->∃x d,AB ops q j x d/\O d=ev O x)/\tR ops (ops.toList.drop k) O S K /\
  a.defers=[]/\a.tmps.size=N/\dN w S/\(∀t,¬Mw ops q listed t->bs w S.dom (O t) (a.tmps.getD t undef))/\cw D S.dom w0 w
theorem fz{listed:Array Bool}{k:Nat}(h:listed.getD k false=true):listed.getD k true=true:=by
 rw[aJ]at h ⊢
 cases hx:listed[k]? with
 | none=>rw[hx]at h;cases h
 | some b=>rw[hx]at h;exact h
theorem tY{O:Tm}{x:AV}:O.put ac x=O:=by rw[Tm.put_eq]
theorem nv{O:Tm}{d t:Nat}{x:AV}(h:t≠d):O.put (some d) x t=O t:=by simp[Tm.put_eq,h]
theorem FI{ops:Array Oper}{N id:Nat}{Q:Exit->Act->World->Prop}{K:Tm->St->Prop}{O:Tm}{S:St}{a:Act}{w:World}(h:awF ops O S K)(hr:RT O S N a w)(hd:qk N ops.toList=true)
  (hq:∀O' S' a' w',K O' S'->RT O' S' N a' w'->cw S.dom S'.dom w w'->Q .normal a' w'):(Code.region id ops true).wp aj Q a w:=by
 classical
 obtain⟨q,hok,hH⟩:=h;have D:=De hok;have hlen:(ops.toList.take q).length=q:=by rw[eC];have:=D.le;simp;omega
 obtain⟨Os,al,e0,hK,hi⟩:=nI _ _ _ _ _ hH;rw[hlen]at hK;obtain⟨hpe,hK⟩:=hK;have hi':∀(i:Nat) (o:Oper),i<q->ops[i]? = some o->∃z,xa o (Os i) S z/\Os (i+1)=(Os i).put o.dst z:=by
  intro i o hiq ho;have ho':(ops.toList.take q)[i]? = some o:=by rw[eR,if_pos hiq];simpa using ho
  rcases hi i o ho' with⟨t,d,X,h1,h2,h3,h4,h5⟩|⟨_,h5⟩
  ·exfalso;have:(d,X)∈([]:List (Nat×dH))++(cn q).filterMap (fun i=>(al i).bind fun X=>((ops.toList.take q)[i]?).bind fun o=>o.dst.map fun d=>(d,X)):=by
    rw[lw,iq];exact⟨i,by simpa using hiq,by rw[h4,ho'];simp[h2]⟩
   rw[List.isEmpty_iff.1 hpe]at this
   cases this
  ·exact h5
 have step_ne:∀i o t,i<q->ops[i]? = some o->o.dst≠some t->Os (i+1) t=Os i t:=by
  intro i o t hiq ho ht;obtain⟨z,_,h5⟩:=hi' i o hiq ho;rw[h5]
  cases hdo:o.dst with
  | none=>rw[Tm.put_eq]
  | some d=>simp only[Tm.put_eq];rw[if_neg];intro e;exact ht (by rw[hdo,e])
 have stable:∀t k i,i<=k->k<=q->(∀j o,i<=j->j<k->ops[j]? = some o->o.dst≠some t)->Os k t=Os i t:=by
  intro t k
  induction k with
  | zero=>intro i h1 _ _;rw[(om:i=0)]
  | succ k ih =>
   intro i h1 h2 h3;by_cases e:i=k+1
   ·rw[e]
   ·have hk:k<ops.size:=by have:=D.le;omega
    rw[step_ne k ops[k] t om (aG hk) (h3 k _ om om (aG hk))];exact ih i om om (fun j o hj1 hj2 ho=>h3 j o hj1 om ho)
 have w0s:dN w.drew S:=hr.st.drew;have r0:RT O S N a w.drew:=⟨hr.defers,hr.size,fun t=>bs.grow hr.st.noU (cw.drew _ w) _ _ (hr.tm t),w0s⟩;have dstN:∀(i:Nat) (o:Oper) (d:Nat),ops[i]? = some o->o.dst=some d->d<N:=by
  intro i o d ho hdd;have:=aB.1 hd o (cC (by simpa using ho:ops.toList[i]? = some o))
  rw[hdd]at this;simpa using this
 have HT:∀listed a' w',lM ops q S (Os q) N w.drew listed a' w'->(∀j,j<q->listed.getD j true=false->∃x d,AB ops q j x d)->rS ops q K S.dom N w.drew listed a' w':=by
  intro listed a' w' H hall;refine⟨q,Os q,S,ah _,D.le,H.size,fun i hi1 hi2=>?_,fun j hj hjl=>?_,hK,H.defers,H.tsize,w0s.frozen H.gr,fun t ht=>?_,H.gr.any _⟩
  ·rw[H.tailU i hi1 hi2];constructor
   ·intro h;cases h
   ·intro h;omega
  ·obtain⟨x,d,hf⟩:=hall j hj hjl;refine⟨x,d,hf,?_⟩;obtain⟨o,ho,hop,hdst⟩:=hf.op;obtain⟨z,hz,hO⟩:=hi' j o hj ho;have e1:Os q d=z:=by
    rw[stable d q (j+1) om (ah _) (fun i p hi1 hi2 hp hpd=>by
     have:=D.apart j o i p d hj hi2 ho hp hdst hpd;omega),hO,hdst]
    simp[Tm.put_eq]
   have e2:ev (Os j) x=z:=by
    rcases hz with⟨_,hz⟩|hz
    ·unfold wB at hz;rw[hop]at hz;exact hz.1
    ·rw[hop]at hz;exact hz.elim
   rw[e1,<-e2]
   cases x with
   | tmp t =>
    show Os j t=Os q t;rw[stable t q j om (ah _) (fun i p hi1 hi2 hp hpt=>by
     have:=(D.reads j o i p t hj hi2 ho hp hpt (by simp only[jY,hop,Op.operands,iq];exact⟨.tmp t,sm,rfl⟩)).1
     omega)]
   | const v=>rfl
   | global g=>rfl
   | func f=>rfl
  ·refine H.tm t (fun j o hj ho hot=>?_)
   cases hv:listed.getD j false with
   | true=>rfl
   | false =>
    have hj2:listed.getD j true=false:=by
     have hjs:j<listed.size:=by rw[H.size];exact(bS.1 ho).1
     rw[aJ,aG hjs]at hv ⊢;exact hv
    obtain⟨x,d,hf⟩:=hall j hj hj2;obtain⟨o',ho',_,hdst⟩:=hf.op;rw[ho]at ho';cases ho';rw[hot]at hdst;cases hdst;exact absurd ⟨j,x,hj2,hf⟩ ht
 have tailStep:∀listed a' w' i,rS ops q K S.dom N w.drew listed a' w'->fY ops listed->i∈cK .any ops listed->wpOp aj ops Q i (fun a'' w''=>lM ops q S (Os q) N w.drew (listed.setIfInBounds i true) a'' w''∨rS ops q K S.dom N w.drew (listed.setIfInBounds i true) a'' w'') a' w':=by
  intro listed a' w' i T hcl hi;obtain⟨k,O',S',hk1,hk2,hsz,hl,hfr,hL,hdef,hts,hrs,htm,hG⟩:=T.ex;obtain⟨o,ho,hun,haft⟩:=dA hi;have hio:i<ops.size:=(bS.1 ho).1;have hils:i<listed.size:=om
  unfold wpOp;simp only[ho];rw[if_pos (by simp[eB,D.guard i o ho])]
  refine bQ ?_;rcases aI i q with hiq|hiq
  ·
   obtain⟨x,d,hf,hOd⟩:=hfr i hiq hun;obtain⟨o',ho',hop,hdst⟩:=hf.op;rw[ho]at ho';cases ho';have hxr:bs w' S'.dom (ev O' x) (a'.eval x):=by
    cases x with
    | tmp t =>
     refine htm t ?_;rintro⟨j,y,hjl,hfj⟩;obtain⟨oj,hoj,_,hdj⟩:=hfj.op;have:=haft j (D.reads i o j oj t hiq hfj.lt ho hoj hdj (by simp only[jY,hop,Op.operands,iq];exact⟨.tmp t,sm,rfl⟩)).2
     rw[fz this]at hjl;cases hjl
    | const v=>exact Eo _ _ v
    | global g=>simp only[ev,bs,Nat.mul_zero];rfl
    | func f=>simp only[ev,bs];exact⟨[],rfl,by simp[bq]⟩
   refine fL (v:=a'.eval x) (by simp[execOp,hop]) (bH ⟨k,O',S',hk1,hk2,by simp[hsz],fun j hj1 hj2=>?_,fun j hj1 hj2=>?_,hL,by rw[hJ];exact hdef,by rw[jy];exact hts,hrs,fun t ht=>?_,hG⟩)
   ·rw[ci _ _ _ _ hils,if_neg om];exact hl j hj1 hj2
   ·rw[ci _ _ _ _ hils]at hj2;by_cases e:j=i
    ·rw[if_pos e]at hj2;cases hj2
    ·rw[if_neg e]at hj2;exact hfr j hj1 hj2
   ·rw[hdst];by_cases e:t=d
    ·subst e;rw[put_eq (by rw[hts];exact dstN i o t ho hdst),hOd];exact hxr
    ·rw[jq (by intro e2;cases e2;exact e rfl)]
     refine htm t ?_;rintro⟨j,y,hjl,hfj⟩;refine ht ⟨j,y,?_,hfj⟩;rw[ci _ _ _ _ hils,if_neg]
     ·exact hjl
     ·rintro rfl;obtain⟨oj,hoj,_,hdj⟩:=hfj.op;rw[ho]at hoj;cases hoj;rw[hdst]at hdj;cases hdj;exact e rfl
  ·have hik:i=k:=by
    rcases db i k with h1|h1|h1
    ·rw[(hl i hiq hio).2 h1]at hun;cases hun
    ·exact h1
    ·rcases D.tail i o hiq ho k h1 with h2|⟨x,d,h2⟩
     ·have hk3:listed.getD k false=true:=h2.elim (haft k) (eU hcl 12 k i o ho haft);have:=(hl k om om).1 (fz hk3);omega
     ·have:=h2.lt;omega
   subst hik;have hdrop:ops.toList.drop i=o::ops.toList.drop (i+1):=by
    have h1:ops.toList[i]? = some o:=by simpa using ho
    rw[iH (by simpa using hio)]
    congr 1;exact(cO.1 h1).2
   rw[hdrop]at hL;unfold tR at hL;rw[D.guard i o ho]at hL;simp only at hL
   let Om:Tm:=fun t=>if Mw ops q listed t then .any else O' t
   have hRm:RT Om S' N a' w':=⟨hdef,hts,fun t=>by
    simp only[Om];split
    ·simp[bs]
    ·rename_i hc;exact htm t hc,hrs⟩
   have hLm:=pV (O':=Om) (jA fun t ht=>by
    simp only[Om];rw[if_neg];rintro⟨j,y,hjl,hfj⟩;have:=haft j ((hfj.tail i o hiq ho).2 ht);rw[fz this]at hjl;cases hjl) hL
   refine kU hLm hRm (fun z v w'' S'' hz hv hs hg=>bH ⟨i+1,O'.put o.dst z,S'',om,om,by simp[hsz],fun j hj1 hj2=>?_,fun j hj1 hj2=>?_,hz,by rw[hJ];exact hdef,by rw[jy];exact hts,hs,fun t ht=>?_,hG.trans hg⟩)
   ·rw[ci _ _ _ _ hils];by_cases e:j=i
    ·rw[if_pos e];simp;omega
    ·rw[if_neg e,hl j hj1 hj2];omega
   ·rw[ci _ _ _ _ hils,if_neg om]at hj2;obtain⟨x,d,hf,hOd⟩:=hfr j hj1 hj2;refine⟨x,d,hf,?_⟩;have hta:=(hf.tail i o hiq ho).1
    cases hdo:o.dst with
    | none=>rw[tY];exact hOd
    | some e =>
     obtain⟨t1,t2⟩:=hta e hdo;rw[nv (ao t2),hOd]
     cases x with
     | tmp t=>exact(nv (fun e2=>t1 (by rw[e2]))).symm
     | const v=>rfl
     | global g=>rfl
     | func f=>rfl
   ·have hlate:¬Mw ops q listed t:=by
     rintro⟨j,y,hjl,hfj⟩;refine ht ⟨j,y,?_,hfj⟩;rw[ci _ _ _ _ hils,if_neg]
     ·exact hjl
     ·have:=hfj.lt;omega
    by_cases e:o.dst=some t
    ·rw[e,put_eq (by rw[hts];exact dstN i o t ho e)]
     rw[show(O'.put (some t) z) t=z by simp[Tm.put_eq]];exact hv
    ·rw[jq e];have hold:=bs.grow hrs.noU hg _ _ (htm t hlate)
     cases hdo:o.dst with
     | none=>rw[tY];exact hold
     | some e'=>rw[nv (fun e2=>e (by rw[hdo,e2]))];exact hold
 have headStep:∀listed a' w' i,lM ops q S (Os q) N w.drew listed a' w'->fY ops listed->i∈cK .any ops listed->wpOp aj ops Q i (fun a'' w''=>lM ops q S (Os q) N w.drew (listed.setIfInBounds i true) a'' w''∨rS ops q K S.dom N w.drew (listed.setIfInBounds i true) a'' w'') a' w':=by
  intro listed a' w' i H hcl hi;obtain⟨o,ho,hun,haft⟩:=dA hi;have hio:i<ops.size:=(bS.1 ho).1;have hils:i<listed.size:=by rw[H.size];exact hio
  rcases aI i q with hiq|hiq
  ·have hset:∀j d,(listed.setIfInBounds i true).getD j d=if j=i then true else listed.getD j d:=fun j d=>ci _ _ _ _ hils
   have hS:dN w' S:=w0s.frozen H.gr;obtain⟨z,hz,hO⟩:=hi' i o hiq ho
   let Oe:Tm:=fun t=>if (∀(j:Nat) (p:Oper),j<q->ops[j]? = some p->p.dst=some t->listed.getD j false=true)then Os q t else .any
   have hRe:RT Oe S N a' w':=⟨H.defers,H.tsize,fun t=>by
    simp only[Oe];split
    ·rename_i hc;exact H.tm t hc
    ·simp[bs],hS⟩
   have hze:xa o Oe S z:=kX (jA fun t ht=>by
    have hc:∀(j:Nat) (p:Oper),j<q->ops[j]? = some p->p.dst=some t->listed.getD j false=true:=fun j p hj hp hpt =>
     haft j (D.reads i o j p t hiq hj ho hp hpt ht).2
    simp only[Oe];rw[if_pos hc,stable t q i om (ah _) (fun j p hj1 hj2 hp hpt=>by
     have:=(D.reads i o j p t hiq hj2 ho hp hpt ht).1;omega)]) hz
   unfold wpOp;simp only[ho];rw[if_pos (by simp[eB,D.guard i o ho])]
   refine bQ (lY hze hRe (fun v w'' hv hg=>bQ ⟨by simp[H.size],fun j hj1 hj2=>?_,by rw[hJ];exact H.defers,by rw[jy];exact H.tsize,H.gr.trans hg,fun t ht=>?_⟩))
   ·rw[hset,if_neg om];exact H.tailU j hj1 hj2
   ·by_cases e:o.dst=some t
    ·rw[e,put_eq (by rw[H.tsize];exact dstN i o t ho e)]
     have:Os q t=z:=by
      rw[stable t q (i+1) om (ah _) (fun j p hj1 hj2 hp hpd=>by
       have:=D.apart i o j p t hiq hj2 ho hp e hpd;omega),hO,e]
      simp[Tm.put_eq]
     rw[this];exact hv
    ·rw[jq e];refine bs.grow hS.noU (hg.any _) _ _ (H.tm t (fun j p hj hp hpt=>?_));have:=ht j p hj hp hpt;rw[hset]at this;by_cases e2:j=i
     ·subst e2;rw[ho]at hp;cases hp;exact absurd hpt e
     ·rw[if_neg e2]at this;exact this
  ·refine tailStep listed a' w' i (HT listed a' w' H (fun j hj hjl=>?_)) hcl hi;rcases D.tail i o hiq ho j om with h1|h1
   ·rw[fz (h1.elim (haft j) (eU hcl 12 j i o ho haft))]at hjl;cases hjl
   ·exact h1
 have first:∀listed,listed.size=ops.size->cK .any ops listed=[]->∀m,m<=ops.size->∀j,j<m->listed.getD j false=true:=by
  intro listed hsz hre m
  induction m with
  | zero=>intro _ j hj;omega
  | succ m ih =>
   intro hm j hj;by_cases e:j<m
   ·exact ih om j e
   ·obtain rfl:j=m:=om
    have hjo:j<ops.size:=om
    cases hv:listed.getD j false with
    | true=>rfl
    | false =>
     have hj2:listed.getD j true=false:=by
      rw[aJ,aG om]at hv ⊢;exact hv
     have:j∈cK .any ops listed:=oZ (aG hjo) hj2 (fun k hk=>ih om k (D.back j _ (aG hjo) k hk));rw[hre]at this;cases this
 refine wp_region_any kr (ji (fun listed a' w'=>fY ops listed/\(lM ops q S (Os q) N w.drew listed a' w'∨rS ops q K S.dom N w.drew listed a' w')) ?_ ?_ ops.size _ a w.drew ?_ ⟨fun i o ho h=>?_,bQ ?_⟩)
 ·intro listed a' w' i hI hi;obtain⟨hcl,hI⟩:=hI;have hcl':fY ops (listed.setIfInBounds i true):=by
   obtain⟨o,ho,hun,haft⟩:=dA hi;have hgo:∀k,listed.getD k false=true->(listed.setIfInBounds i true).getD k false=true:=fun k hk=>by
    rw[aJ]at hk ⊢;rw[oE];split
    ·split<;>simp_all
    ·exact hk
   intro j p hp hj k hk;by_cases e:j=i
   ·subst e;rw[ho]at hp;cases hp;exact hgo k (haft k hk)
   ·refine hgo k (hcl j p hp ?_ k hk);rw[aJ]at hj ⊢
    rwa [cf (ao e)]at hj
  have e:(fun a'' w''=>fY ops (listed.setIfInBounds i true)/\(lM ops q S (Os q) N w.drew (listed.setIfInBounds i true) a'' w''∨rS ops q K S.dom N w.drew (listed.setIfInBounds i true) a'' w''))=fun a'' w''=>(lM ops q S (Os q) N w.drew (listed.setIfInBounds i true) a'' w''∨rS ops q K S.dom N w.drew (listed.setIfInBounds i true) a'' w''):=by
   funext a'' w'';simp[hcl']
  show wpOp aj ops Q i (fun a'' w''=>fY ops (listed.setIfInBounds i true)/\(lM ops q S (Os q) N w.drew (listed.setIfInBounds i true) a'' w''∨rS ops q K S.dom N w.drew (listed.setIfInBounds i true) a'' w'')) a' w';rw[e];rcases hI with H|T
  ·exact headStep listed a' w' i H hcl hi
  ·exact tailStep listed a' w' i T hcl hi
 ·rintro listed a' w' ⟨_,hI⟩ hre;have fin:rS ops q K S.dom N w.drew listed a' w'->Q .normal a' w':=by
   intro T;obtain⟨k,O',S',hk1,hk2,hsz,hl,hfr,hL,hdef,hts,hrs,htm,hG⟩:=T.ex;have hall:=first listed hsz hre ops.size (ah _)
   have hk:k=ops.size:=by
    rcases aI k ops.size with h1|h1
    ·have:=(hl k hk1 h1).1 (fz (hall k h1));omega
    ·omega
   rw[hk,fU sm]at hL
   refine hq O' S' a' w' hL ⟨hdef,hts,fun t=>htm t ?_,hrs⟩ ((cw.drew S.dom w).trans hG);rintro⟨j,y,hjl,hfj⟩;rw[fz (hall j (by have:=hfj.lt;have:=D.le;omega))]at hjl;cases hjl
  rcases hI with H|T
  ·refine fin (HT listed a' w' H (fun j hj hjl=>?_));rw[fz (first listed H.size hre ops.size (ah _) j (by have:=D.le;omega))]at hjl;cases hjl
  ·exact fin T
 ·simp only[IY];exact bV mJ sm
 ·rw[ns]at h;cases h
 ·refine⟨sm,fun i _ hi2=>zG hi2,hr.defers,hr.size,cw.refl _ _,fun t ht=>?_⟩
  have hno:∀(j:Nat) (o:Oper),j<q->ops[j]? = some o->o.dst≠some t:=by
   intro j o hj ho hdt;have:=ht j o hj ho hdt;rw[ns]at this;cases this
  rw[stable t q 0 om (ah _) (fun j o _ hj ho=>hno j o hj ho),e0];exact r0.tm t
def Hb(l:List Oper)(q j:Nat):Bool:=decide (j<q)&&(match l[j]? with
 | some o=>Bt o.op&&(match o.dst with
  | some d=>(l.zipIdx.drop q).all (fun p=>(match p.1.dst with
    | some t=>!(jY o).contains t&&decide (t≠d)
    | ac=>true)&&(!(jY p.1).contains d||(aft p.1).contains j))
  | _=>false)
 | ac=>false)
def vP:List (List Nat)->List Nat
 | []=>[]
 | js::_=>js
def G9:List (List Nat)->List (List Nat)
 | []=>[]
 | [js]=>[js]
 | _::r=>r
def Fn(jss:List (List Nat)):Nat->List (List Nat)
 | 0=>jss
 | k+1=>G9 (Fn jss k)
def yH(ops:Array Oper)(q:Nat)(jss:List (List Nat)):Bool :=
 let l:=ops.toList
 l.all (fun o=>o.guard.isNone) &&
 l.zipIdx.all (fun p=>(aft p.1).all (fun k=>decide (k<p.2))) &&
 (l.take q).zipIdx.all (fun p=>(l.take q).zipIdx.all (fun r=>match r.1.dst with
  | some t=>!(jY p.1).contains t||(decide (r.2<p.2)&&(aft p.1).contains r.2)
  | ac=>true)) &&
 (l.take q).zipIdx.all (fun p=>(l.take q).zipIdx.all (fun r=>decide (p.2=r.2)||p.1.dst.isNone||p.1.dst != r.1.dst)) &&
 (l.zipIdx.drop q).all (fun p=>(cn p.2).all (fun j=>(aft p.1).contains j||((vP (Fn jss (p.2-q))).contains j&&Hb l q j)||oF ops 12 j p.2)) &&
 decide (q<=l.length)
def kO(ops:List Oper)(O:Tm)(S:St):List Nat->Prop
 | []=>True
 | j::js=>(match ops[j]? with
  | some o=>(match o.dst with
   | some d=>xa o O S (O d)
   | ac=>False)
  | ac=>False)/\kO ops O S js
def Ge(ops:List Oper):List (List Nat)->List Oper->Tm->St->(Tm->St->Prop)->Prop
 | _,[],O,S,K=>K O S
 | jss,o::l,O,S,K=>wB o O S (fun z S'=>kO ops (O.put o.dst z) S' (vP jss)/\Ge ops (G9 jss) l (O.put o.dst z) S' K)
def awG(ops:Array Oper)(O:Tm)(S:St)(K:Tm->St->Prop):Prop:=∃q jss,yH ops q jss=true /\
 Ah (ops.toList.take q) O S [] (fun O' pend=>pend.isEmpty=true/\Ge ops.toList jss (ops.toList.drop q) O' S K)
theorem ob{ops:List Oper}{O:Tm}{S:St}:∀{js:List Nat},kO ops O S js->∀j∈js,∃o d,ops[j]? = some o/\o.dst=some d/\xa o O S (O d)
 | [],_,j,hj=>by cases hj
 | i::js,h,j,hj=>by
  simp only[kO]at h;rcases List.mem_cons.1 hj with rfl|hj
  ·have h1:=h.1
   cases ho:ops[j]? with
   | none=>rw[ho]at h1;exact h1.elim
   | some o =>
    rw[ho]at h1;simp only at h1
    cases hd:o.dst with
    | none=>rw[hd]at h1;exact h1.elim
    | some d=>rw[hd]at h1;exact⟨o,d,rfl,hd,h1⟩
  ·exact ob h.2 j hj
structure wR(ops:Array Oper)(q j:Nat)(o:Oper)(d:Nat):Prop where
 lt:j<q
 op:ops[j]? = some o
 dst:o.dst=some d
 pure:Bt o.op=true
 tail:∀(i:Nat) (p:Oper),q<=i->ops[i]? = some p->(∀t,p.dst=some t->t ∉ jY o/\t≠d)/\(d∈jY p->j∈aft p)
structure GOK(ops:Array Oper)(q:Nat)(jss:List (List Nat)):Prop where
 guard:∀(i:Nat) (o:Oper),ops[i]? = some o->o.guard=ac
 back:∀(i:Nat) (o:Oper),ops[i]? = some o->∀k∈aft o,k<i
 reads:∀(i:Nat) (o:Oper) (j:Nat) (p:Oper) (t:Nat),i<q->j<q->ops[i]? = some o->ops[j]? = some p->p.dst=some t->t∈jY o->j<i/\j∈aft o
 apart:∀(i:Nat) (o:Oper) (j:Nat) (p:Oper) (t:Nat),i<q->j<q->ops[i]? = some o->ops[j]? = some p->o.dst=some t->p.dst=some t->i=j
 tail:∀(i:Nat) (o:Oper),q<=i->ops[i]? = some o->∀j,j<i->(j∈aft o∨oF ops 12 j i=true)∨(j∈vP (Fn jss (i-q))/\∃p d,wR ops q j p d)
 le:q<=ops.size
theorem wa{ops:Array Oper}{q:Nat}{jss:List (List Nat)}(h:yH ops q jss=true):GOK ops q jss:=by
 simp only[yH,aA,decide_eq_true_eq]at h;obtain⟨⟨⟨⟨⟨h1,h2⟩,h3⟩,h4⟩,h5⟩,h6⟩:=h;have gl:∀{i:Nat} {o:Oper},ops[i]? = some o->ops.toList[i]? = some o:=fun h=>by simpa using h
 have tk:∀{i:Nat} {o:Oper},i<q->ops[i]? = some o->(o,i)∈(ops.toList.take q).zipIdx:=fun hi ho=>gn (by rw[eR,if_pos hi];exact gl ho)
 have dm:∀{i:Nat} {o:Oper},q<=i->ops[i]? = some o->(o,i)∈ops.toList.zipIdx.drop q:=fun {i o} hi ho=>by
  rw[List.mem_iff_getElem?];exact⟨i-q,by rw[lF,(om:q+(i-q)=i),List.getElem?_zipIdx,gl ho];simp⟩
 refine⟨fun i o ho=>?_,fun i o ho k hk=>?_,fun i o j p t hi hj ho hp ht hl=>?_,fun i o j p t hi hj ho hp ht hpt=>?_,fun i o hi ho j hj=>?_,by simpa using h6⟩
 ·have:=aB.1 h1 o (cC (gl ho));simpa using this
 ·have:=aB.1 (aB.1 h2 (o,i) (gn (gl ho))) k hk;simpa using this
 ·have:=aB.1 (aB.1 h3 (o,i) (tk hi ho)) (p,j) (tk hj hp);simp only[ht]at this;simp only[dj,fF,aA,decide_eq_true_eq]at this;rcases this with h7|h7
  ·simp at h7;exact absurd hl h7
  ·exact⟨h7.1,by simpa using h7.2⟩
 ·have:=aB.1 (aB.1 h4 (o,i) (tk hi ho)) (p,j) (tk hj hp);simp only[ht,hpt]at this;simpa using this
 ·have:=aB.1 (aB.1 h5 (o,i) (dm hi ho)) j (by simpa using hj)
  simp only[dj]at this;rcases this with (h7|h7)|h7
  ·exact bQ (bQ (by simpa using h7))
  ·right;rw[aA]at h7;obtain⟨hjs,h7⟩:=h7;refine⟨by simpa using hjs,?_⟩
   simp only[Hb,aA,decide_eq_true_eq]at h7;obtain⟨hjq,h7⟩:=h7
   cases hoj:ops.toList[j]? with
   | none=>rw[hoj]at h7;cases h7
   | some oj =>
    rw[hoj]at h7;simp only[aA]at h7;obtain⟨hqo,h7⟩:=h7
    cases hds:oj.dst with
    | none=>rw[hds]at h7;cases h7
    | some d =>
     rw[hds]at h7;refine⟨oj,d,hjq,by simpa using hoj,hds,hqo,fun i' p hi' hp=>?_⟩
     have h8:=aB.1 h7 (p,i') (dm hi' hp);simp only[aA,dj,fF]at h8;refine⟨fun t ht=>?_,fun hd=>?_⟩
     ·have h9:=h8.1;rw[ht]at h9;simp only[aA,fF,decide_eq_true_eq]at h9;refine⟨fun hm=>?_,h9.2⟩;have h10:=h9.1;simp at h10;exact h10 hm
     ·rcases h8.2 with h9|h9
      ·simp at h9;exact absurd hd h9
      ·simpa using h9
  ·exact bQ (bH h7)
def oJ(ops:Array Oper)(q:Nat)(listed:Array Bool)(t:Nat):Prop:=∃j o,listed.getD j true=false/\wR ops q j o t
structure kC(ops:Array Oper)(q:Nat)(jss:List (List Nat))(K:Tm->St->Prop)(D:Nat->Prop)(N:Nat)(w0:World)(listed:Array Bool)(a:Act)(w:World):Prop where
 ex:∃k O S,q<=k/\k<=ops.size/\listed.size=ops.size/\(∀i,q<=i->i<ops.size->(listed.getD i true=true↔i<k)) /\
  (∀j,j<q->listed.getD j true=false->∃o d,wR ops q j o d/\xa o O S (O d))/\Ge ops.toList (Fn jss (k-q)) (ops.toList.drop k) O S K /\
  a.defers=[]/\a.tmps.size=N/\dN w S/\(∀t,¬oJ ops q listed t->bs w S.dom (O t) (a.tmps.getD t undef))/\cw D S.dom w0 w
theorem FH{ops:Array Oper}{N id:Nat}{Q:Exit->Act->World->Prop}{K:Tm->St->Prop}{O:Tm}{S:St}{a:Act}{w:World}(h:awG ops O S K)(hr:RT O S N a w)(hd:qk N ops.toList=true)
  (hq:∀O' S' a' w',K O' S'->RT O' S' N a' w'->cw S.dom S'.dom w w'->Q .normal a' w'):(Code.region id ops true).wp aj Q a w:=by
 classical
 obtain⟨q,jss,hok,hH⟩:=h;have D:=wa hok;have hlen:(ops.toList.take q).length=q:=by rw[eC];have:=D.le;simp;omega
 obtain⟨Os,al,e0,hK,hi⟩:=nI _ _ _ _ _ hH;rw[hlen]at hK;obtain⟨hpe,hK⟩:=hK;have hi':∀(i:Nat) (o:Oper),i<q->ops[i]? = some o->∃z,xa o (Os i) S z/\Os (i+1)=(Os i).put o.dst z:=by
  intro i o hiq ho;have ho':(ops.toList.take q)[i]? = some o:=by rw[eR,if_pos hiq];simpa using ho
  rcases hi i o ho' with⟨t,d,X,h1,h2,h3,h4,h5⟩|⟨_,h5⟩
  ·exfalso;have:(d,X)∈([]:List (Nat×dH))++(cn q).filterMap (fun i=>(al i).bind fun X=>((ops.toList.take q)[i]?).bind fun o=>o.dst.map fun d=>(d,X)):=by
    rw[lw,iq];exact⟨i,by simpa using hiq,by rw[h4,ho'];simp[h2]⟩
   rw[List.isEmpty_iff.1 hpe]at this
   cases this
  ·exact h5
 have step_ne:∀i o t,i<q->ops[i]? = some o->o.dst≠some t->Os (i+1) t=Os i t:=by
  intro i o t hiq ho ht;obtain⟨z,_,h5⟩:=hi' i o hiq ho;rw[h5]
  cases hdo:o.dst with
  | none=>rw[Tm.put_eq]
  | some d=>simp only[Tm.put_eq];rw[if_neg];intro e;exact ht (by rw[hdo,e])
 have stable:∀t k i,i<=k->k<=q->(∀j o,i<=j->j<k->ops[j]? = some o->o.dst≠some t)->Os k t=Os i t:=by
  intro t k
  induction k with
  | zero=>intro i h1 _ _;rw[(om:i=0)]
  | succ k ih =>
   intro i h1 h2 h3;by_cases e:i=k+1
   ·rw[e]
   ·have hk:k<ops.size:=by have:=D.le;omega
    rw[step_ne k ops[k] t om (aG hk) (h3 k _ om om (aG hk))];exact ih i om om (fun j o hj1 hj2 ho=>h3 j o hj1 om ho)
 have w0s:dN w.drew S:=hr.st.drew;have r0:RT O S N a w.drew:=⟨hr.defers,hr.size,fun t=>bs.grow hr.st.noU (cw.drew _ w) _ _ (hr.tm t),w0s⟩;have dstN:∀(i:Nat) (o:Oper) (d:Nat),ops[i]? = some o->o.dst=some d->d<N:=by
  intro i o d ho hdd;have:=aB.1 hd o (cC (by simpa using ho:ops.toList[i]? = some o))
  rw[hdd]at this;simpa using this
 have HT:∀listed a' w',lM ops q S (Os q) N w.drew listed a' w'->(∀j,j<q->listed.getD j true=false->∃o d,wR ops q j o d)->kC ops q jss K S.dom N w.drew listed a' w':=by
  intro listed a' w' H hall;refine⟨q,Os q,S,ah _,D.le,H.size,fun i hi1 hi2=>?_,fun j hj hjl=>?_,by rw[bW];exact hK,H.defers,H.tsize,w0s.frozen H.gr,fun t ht=>?_,H.gr.any _⟩
  ·rw[H.tailU i hi1 hi2];constructor
   ·intro h;cases h
   ·intro h;omega
  ·obtain⟨o,d,hf⟩:=hall j hj hjl;refine⟨o,d,hf,?_⟩;obtain⟨z,hz,hO⟩:=hi' j o hj hf.op;have e1:Os q d=z:=by
    rw[stable d q (j+1) om (ah _) (fun i p hi1 hi2 hp hpd=>by
     have:=D.apart j o i p d hj hi2 hf.op hp hf.dst hpd;omega),hO,hf.dst]
    simp[Tm.put_eq]
   rw[e1];refine kX (jA fun t ht=>?_) hz;rw[stable t q j om (ah _) (fun i p hi1 hi2 hp hpt=>by
    have:=(D.reads j o i p t hj hi2 hf.op hp hpt ht).1;omega)]
  ·refine H.tm t (fun j o hj ho hot=>?_)
   cases hv:listed.getD j false with
   | true=>rfl
   | false =>
    have hj2:listed.getD j true=false:=by
     have hjs:j<listed.size:=by rw[H.size];exact(bS.1 ho).1
     rw[aJ,aG hjs]at hv ⊢;exact hv
    obtain⟨o',d,hf⟩:=hall j hj hj2;have ho':=hf.op;rw[ho]at ho';cases ho';have hdst:=hf.dst;rw[hot]at hdst;cases hdst;exact absurd ⟨j,o,hj2,hf⟩ ht
 have tailStep:∀listed a' w' i,kC ops q jss K S.dom N w.drew listed a' w'->fY ops listed->i∈cK .any ops listed->wpOp aj ops Q i (fun a'' w''=>lM ops q S (Os q) N w.drew (listed.setIfInBounds i true) a'' w''∨kC ops q jss K S.dom N w.drew (listed.setIfInBounds i true) a'' w'') a' w':=by
  intro listed a' w' i T hcl hi;obtain⟨k,O',S',hk1,hk2,hsz,hl,hfr,hL,hdef,hts,hrs,htm,hG⟩:=T.ex;obtain⟨o,ho,hun,haft⟩:=dA hi;have hio:i<ops.size:=(bS.1 ho).1;have hils:i<listed.size:=om
  unfold wpOp;simp only[ho];rw[if_pos (by simp[eB,D.guard i o ho])]
  refine bQ ?_;rcases aI i q with hiq|hiq
  ·
   obtain⟨o',d,hf,hok'⟩:=hfr i hiq hun;have ho':=hf.op;rw[ho]at ho';cases ho';have hdst:=hf.dst
   let Om:Tm:=fun t=>if oJ ops q listed t then .any else O' t
   have hRm:RT Om S' N a' w':=⟨hdef,hts,fun t=>by
    simp only[Om];split
    ·simp[bs]
    ·rename_i hc;exact htm t hc,hrs⟩
   have hLm:=kX (O':=Om) (jA fun t ht=>by
    simp only[Om];rw[if_neg];rintro⟨j,oj,hjl,hfj⟩;have:=haft j (D.reads i o j oj t hiq hfj.lt ho hfj.op hfj.dst ht).2;rw[fz this]at hjl;cases hjl) hok'
   refine lY hLm hRm (fun v w'' hv hg=>bH ⟨k,O',S',hk1,hk2,by simp[hsz],fun j hj1 hj2=>?_,fun j hj1 hj2=>?_,hL,by rw[hJ];exact hdef,by rw[jy];exact hts,hrs.frozen hg,fun t ht=>?_,hG.trans (hg.any _)⟩)
   ·rw[ci _ _ _ _ hils,if_neg om];exact hl j hj1 hj2
   ·rw[ci _ _ _ _ hils]at hj2;by_cases e:j=i
    ·rw[if_pos e]at hj2;cases hj2
    ·rw[if_neg e]at hj2;exact hfr j hj1 hj2
   ·rw[hdst];by_cases e:t=d
    ·subst e;rw[put_eq (by rw[hts];exact dstN i o t ho hdst)];exact hv
    ·rw[jq (by intro e2;cases e2;exact e rfl)]
     refine bs.grow hrs.noU (hg.any _) _ _ (htm t ?_);rintro⟨j,oj,hjl,hfj⟩;refine ht ⟨j,oj,?_,hfj⟩;rw[ci _ _ _ _ hils,if_neg]
     ·exact hjl
     ·rintro rfl;have hoj:=hfj.op;rw[ho]at hoj;cases hoj;have hdj:=hfj.dst;rw[hdst]at hdj;cases hdj;exact e rfl
  ·have hik:i=k:=by
    rcases db i k with h1|h1|h1
    ·rw[(hl i hiq hio).2 h1]at hun;cases hun
    ·exact h1
    ·rcases D.tail i o hiq ho k h1 with h2|⟨_,p,d,h2⟩
     ·have hk3:listed.getD k false=true:=h2.elim (haft k) (eU hcl 12 k i o ho haft);have:=(hl k om om).1 (fz hk3);omega
     ·have:=h2.lt;omega
   subst hik;have hdrop:ops.toList.drop i=o::ops.toList.drop (i+1):=by
    have h1:ops.toList[i]? = some o:=by simpa using ho
    rw[iH (by simpa using hio)]
    congr 1;exact(cO.1 h1).2
   rw[hdrop]at hL;unfold Ge at hL
   let Om:Tm:=fun t=>if oJ ops q listed t then .any else O' t
   have hRm:RT Om S' N a' w':=⟨hdef,hts,fun t=>by
    simp only[Om];split
    ·simp[bs]
    ·rename_i hc;exact htm t hc,hrs⟩
   have hLm:=pV (O':=Om) (jA fun t ht=>by
    simp only[Om];rw[if_neg];rintro⟨j,y,hjl,hfj⟩;have:=haft j ((hfj.tail i o hiq ho).2 ht);rw[fz this]at hjl;cases hjl) hL
   refine kU hLm hRm (fun z v w'' S'' hz hv hs hg=>bH ⟨i+1,O'.put o.dst z,S'',om,om,by simp[hsz],fun j hj1 hj2=>?_,fun j hj1 hj2=>?_,by rw[(om:i+1-q=(i-q)+1)];exact hz.2,by rw[hJ];exact hdef,by rw[jy];exact hts,hs,fun t ht=>?_,hG.trans hg⟩)
   ·rw[ci _ _ _ _ hils];by_cases e:j=i
    ·rw[if_pos e];simp;omega
    ·rw[if_neg e,hl j hj1 hj2];omega
   ·rw[ci _ _ _ _ hils,if_neg om]at hj2;obtain⟨p,d,hf,_⟩:=hfr j hj1 hj2;refine⟨p,d,hf,?_⟩;have hjs:j∈vP (Fn jss (i-q)):=by
     rcases D.tail i o hiq ho j om with h1|h1
     ·rw[fz (h1.elim (haft j) (eU hcl 12 j i o ho haft))]at hj2;cases hj2
     ·exact h1.1
    obtain⟨p',d',h1,h2,h3⟩:=ob hz.1 j hjs;have h4:ops.toList[j]? = some p:=by simpa using hf.op
    rw[h4]at h1;cases h1;have h5:=hf.dst;rw[h2]at h5;cases h5;exact h3
   ·have hlate:¬oJ ops q listed t:=by
     rintro⟨j,y,hjl,hfj⟩;refine ht ⟨j,y,?_,hfj⟩;rw[ci _ _ _ _ hils,if_neg]
     ·exact hjl
     ·have:=hfj.lt;omega
    by_cases e:o.dst=some t
    ·rw[e,put_eq (by rw[hts];exact dstN i o t ho e)]
     rw[show(O'.put (some t) z) t=z by simp[Tm.put_eq]];exact hv
    ·rw[jq e];have hold:=bs.grow hrs.noU hg _ _ (htm t hlate)
     cases hdo:o.dst with
     | none=>rw[tY];exact hold
     | some e'=>rw[nv (fun e2=>e (by rw[hdo,e2]))];exact hold
 have headStep:∀listed a' w' i,lM ops q S (Os q) N w.drew listed a' w'->fY ops listed->i∈cK .any ops listed->wpOp aj ops Q i (fun a'' w''=>lM ops q S (Os q) N w.drew (listed.setIfInBounds i true) a'' w''∨kC ops q jss K S.dom N w.drew (listed.setIfInBounds i true) a'' w'') a' w':=by
  intro listed a' w' i H hcl hi;obtain⟨o,ho,hun,haft⟩:=dA hi;have hio:i<ops.size:=(bS.1 ho).1;have hils:i<listed.size:=by rw[H.size];exact hio
  rcases aI i q with hiq|hiq
  ·have hset:∀j d,(listed.setIfInBounds i true).getD j d=if j=i then true else listed.getD j d:=fun j d=>ci _ _ _ _ hils
   have hS:dN w' S:=w0s.frozen H.gr;obtain⟨z,hz,hO⟩:=hi' i o hiq ho
   let Oe:Tm:=fun t=>if (∀(j:Nat) (p:Oper),j<q->ops[j]? = some p->p.dst=some t->listed.getD j false=true)then Os q t else .any
   have hRe:RT Oe S N a' w':=⟨H.defers,H.tsize,fun t=>by
    simp only[Oe];split
    ·rename_i hc;exact H.tm t hc
    ·simp[bs],hS⟩
   have hze:xa o Oe S z:=kX (jA fun t ht=>by
    have hc:∀(j:Nat) (p:Oper),j<q->ops[j]? = some p->p.dst=some t->listed.getD j false=true:=fun j p hj hp hpt =>
     haft j (D.reads i o j p t hiq hj ho hp hpt ht).2
    simp only[Oe];rw[if_pos hc,stable t q i om (ah _) (fun j p hj1 hj2 hp hpt=>by
     have:=(D.reads i o j p t hiq hj2 ho hp hpt ht).1;omega)]) hz
   unfold wpOp;simp only[ho];rw[if_pos (by simp[eB,D.guard i o ho])]
   refine bQ (lY hze hRe (fun v w'' hv hg=>bQ ⟨by simp[H.size],fun j hj1 hj2=>?_,by rw[hJ];exact H.defers,by rw[jy];exact H.tsize,H.gr.trans hg,fun t ht=>?_⟩))
   ·rw[hset,if_neg om];exact H.tailU j hj1 hj2
   ·by_cases e:o.dst=some t
    ·rw[e,put_eq (by rw[H.tsize];exact dstN i o t ho e)]
     have:Os q t=z:=by
      rw[stable t q (i+1) om (ah _) (fun j p hj1 hj2 hp hpd=>by
       have:=D.apart i o j p t hiq hj2 ho hp e hpd;omega),hO,e]
      simp[Tm.put_eq]
     rw[this];exact hv
    ·rw[jq e];refine bs.grow hS.noU (hg.any _) _ _ (H.tm t (fun j p hj hp hpt=>?_));have:=ht j p hj hp hpt;rw[hset]at this;by_cases e2:j=i
     ·subst e2;rw[ho]at hp;cases hp;exact absurd hpt e
     ·rw[if_neg e2]at this;exact this
  ·refine tailStep listed a' w' i (HT listed a' w' H (fun j hj hjl=>?_)) hcl hi;rcases D.tail i o hiq ho j om with h1|h1
   ·rw[fz (h1.elim (haft j) (eU hcl 12 j i o ho haft))]at hjl;cases hjl
   ·exact h1.2
 have first:∀listed,listed.size=ops.size->cK .any ops listed=[]->∀m,m<=ops.size->∀j,j<m->listed.getD j false=true:=by
  intro listed hsz hre m
  induction m with
  | zero=>intro _ j hj;omega
  | succ m ih =>
   intro hm j hj;by_cases e:j<m
   ·exact ih om j e
   ·obtain rfl:j=m:=om
    have hjo:j<ops.size:=om
    cases hv:listed.getD j false with
    | true=>rfl
    | false =>
     have hj2:listed.getD j true=false:=by
      rw[aJ,aG om]at hv ⊢;exact hv
     have:j∈cK .any ops listed:=oZ (aG hjo) hj2 (fun k hk=>ih om k (D.back j _ (aG hjo) k hk));rw[hre]at this;cases this
 refine wp_region_any kr (ji (fun listed a' w'=>fY ops listed/\(lM ops q S (Os q) N w.drew listed a' w'∨kC ops q jss K S.dom N w.drew listed a' w')) ?_ ?_ ops.size _ a w.drew ?_ ⟨fun i o ho h=>?_,bQ ?_⟩)
 ·intro listed a' w' i hI hi;obtain⟨hcl,hI⟩:=hI;have hcl':fY ops (listed.setIfInBounds i true):=by
   obtain⟨o,ho,hun,haft⟩:=dA hi;have hgo:∀k,listed.getD k false=true->(listed.setIfInBounds i true).getD k false=true:=fun k hk=>by
    rw[aJ]at hk ⊢;rw[oE];split
    ·split<;>simp_all
    ·exact hk
   intro j p hp hj k hk;by_cases e:j=i
   ·subst e;rw[ho]at hp;cases hp;exact hgo k (haft k hk)
   ·refine hgo k (hcl j p hp ?_ k hk);rw[aJ]at hj ⊢
    rwa [cf (ao e)]at hj
  have e:(fun a'' w''=>fY ops (listed.setIfInBounds i true)/\(lM ops q S (Os q) N w.drew (listed.setIfInBounds i true) a'' w''∨kC ops q jss K S.dom N w.drew (listed.setIfInBounds i true) a'' w''))=fun a'' w''=>(lM ops q S (Os q) N w.drew (listed.setIfInBounds i true) a'' w''∨kC ops q jss K S.dom N w.drew (listed.setIfInBounds i true) a'' w''):=by
   funext a'' w'';simp[hcl']
  show wpOp aj ops Q i (fun a'' w''=>fY ops (listed.setIfInBounds i true)/\(lM ops q S (Os q) N w.drew (listed.setIfInBounds i true) a'' w''∨kC ops q jss K S.dom N w.drew (listed.setIfInBounds i true) a'' w'')) a' w';rw[e];rcases hI with H|T
  ·exact headStep listed a' w' i H hcl hi
  ·exact tailStep listed a' w' i T hcl hi
 ·rintro listed a' w' ⟨_,hI⟩ hre;have fin:kC ops q jss K S.dom N w.drew listed a' w'->Q .normal a' w':=by
   intro T;obtain⟨k,O',S',hk1,hk2,hsz,hl,hfr,hL,hdef,hts,hrs,htm,hG⟩:=T.ex;have hall:=first listed hsz hre ops.size (ah _)
   have hk:k=ops.size:=by
    rcases aI k ops.size with h1|h1
    ·have:=(hl k hk1 h1).1 (fz (hall k h1));omega
    ·omega
   rw[hk,fU sm]at hL
   refine hq O' S' a' w' hL ⟨hdef,hts,fun t=>htm t ?_,hrs⟩ ((cw.drew S.dom w).trans hG);rintro⟨j,y,hjl,hfj⟩;rw[fz (hall j (by have:=hfj.lt;have:=D.le;omega))]at hjl;cases hjl
  rcases hI with H|T
  ·refine fin (HT listed a' w' H (fun j hj hjl=>?_));rw[fz (first listed H.size hre ops.size (ah _) j (by have:=D.le;omega))]at hjl;cases hjl
  ·exact fin T
 ·simp only[IY];exact bV mJ sm
 ·rw[ns]at h;cases h
 ·refine⟨sm,fun i _ hi2=>zG hi2,hr.defers,hr.size,cw.refl _ _,fun t ht=>?_⟩
  have hno:∀(j:Nat) (o:Oper),j<q->ops[j]? = some o->o.dst≠some t:=by
   intro j o hj ho hdt;have:=ht j o hj ho hdt;rw[ns]at this;cases this
  rw[stable t q 0 om (ah _) (fun j o _ hj ho=>hno j o hj ho),e0];exact r0.tm t
def awA(ops:Array Oper)(O:Tm)(S:St)(K:Tm->St->Prop):Prop:=∃q jss,yH ops q jss=true /\
 Ah (ops.toList.take q) O S [] (fun O' pend=>mh pend (rm (lf (ops.toList.take q)) O') S (fun O S=>kO ops.toList O S (vP jss)/\Ge ops.toList jss (ops.toList.drop q) O S K))
theorem rF{P:Nat->Prop}:∀(pend:List (Nat×dH)) (O0:Tm) {O1:Tm} (S:St) (K:Tm->St->Prop),mh pend O0 S K->(∀t,¬P t->O1 t=O0 t)->mh pend O1 S (fun O S=>∃O',(∀t,¬P t->O t=O' t)/\K O' S)
 | [],O0,O1,S,K,h,he=>by simp only[mh]at h ⊢;exact⟨O0,he,h⟩
 | (d,X)::r,O0,O1,S,K,h,he=>by
  simp only[mh]at h ⊢;intro b hb;refine rF r _ _ K (h b hb) (fun t ht=>?_);simp only[Tm.put_eq];split
  ·rfl
  ·exact he t ht
theorem FK{ops:Array Oper}{N id:Nat}{Q:Exit->Act->World->Prop}{K:Tm->St->Prop}{O:Tm}{S:St}{a:Act}{w:World}(h:awA ops O S K)(hr:RT O S N a w)(hd:qk N ops.toList=true)
  (hq:∀O' S' a' w',K O' S'->RT O' S' N a' w'->cw S.dom S'.dom w w'->Q .normal a' w'):(Code.region id ops true).wp aj Q a w:=by
 classical
 obtain⟨q,jss,hok,hH⟩:=h;have D:=wa hok;have hlen:(ops.toList.take q).length=q:=by rw[eC];have:=D.le;simp;omega
 obtain⟨Os,al,e0,hK,hi⟩:=nI _ _ _ _ _ hH;rw[hlen]at hK;have hi':∀(i:Nat) (o:Oper),i<q->ops[i]? = some o->(∃t d X,o.op=.alloc t/\o.dst=some d/\kT t=some X/\al i=some X/\Os (i+1)=(Os i).put (some d) .any) ∨
   (al i=ac/\∃z,xa o (Os i) S z/\Os (i+1)=(Os i).put o.dst z):=fun i o hiq ho=>hi i o (by rw[eR,if_pos hiq];simpa using ho)
 have step_ne:∀i o t,i<q->ops[i]? = some o->o.dst≠some t->Os (i+1) t=Os i t:=by
  intro i o t hiq ho ht;rcases hi' i o hiq ho with⟨_,d,X,_,h2,_,_,h5⟩|⟨_,z,_,h5⟩
  ·rw[h5];simp only[Tm.put_eq];rw[if_neg];intro e;exact ht (by rw[h2,e])
  ·rw[h5]
   cases hdo:o.dst with
   | none=>rw[Tm.put_eq]
   | some d=>simp only[Tm.put_eq];rw[if_neg];intro e;exact ht (by rw[hdo,e])
 have stable:∀t k i,i<=k->k<=q->(∀j o,i<=j->j<k->ops[j]? = some o->o.dst≠some t)->Os k t=Os i t:=by
  intro t k
  induction k with
  | zero=>intro i h1 _ _;rw[(om:i=0)]
  | succ k ih =>
   intro i h1 h2 h3;by_cases e:i=k+1
   ·rw[e]
   ·have hk:k<ops.size:=by have:=D.le;omega
    rw[step_ne k ops[k] t om (aG hk) (h3 k _ om om (aG hk))];exact ih i om om (fun j o hj1 hj2 ho=>h3 j o hj1 om ho)
 have w0s:dN w.drew S:=hr.st.drew;have r0:RT O S N a w.drew:=⟨hr.defers,hr.size,fun t=>bs.grow hr.st.noU (cw.drew _ w) _ _ (hr.tm t),w0s⟩;have dstN:∀(i:Nat) (o:Oper) (d:Nat),ops[i]? = some o->o.dst=some d->d<N:=by
  intro i o d ho hdd;have:=aB.1 hd o (cC (by simpa using ho:ops.toList[i]? = some o))
  rw[hdd]at this;simpa using this
 have HT:∀listed a' w',oP ops q S (Os q) al N a w.drew listed a' w'->(∀j,j<q->listed.getD j true=false->j∈vP jss/\∃o d,wR ops q j o d)->kC ops q jss K S.dom N w.drew listed a' w':=by
  intro listed a' w' H hall;have hlist:∀(j:Nat) (o:Oper),j<q->ops[j]? = some o->listed.getD j true≠false->listed.getD j false=true:=by
   intro j o hj ho hn;have hjs:j<listed.size:=by rw[H.size];exact(bS.1 ho).1
   rw[aJ,aG hjs]at hn ⊢;simpa using hn
  have halloc:∀(i:Nat) (o:Oper) (X:dH),i<q->ops[i]? = some o->al i=some X->listed.getD i false=true:=by
   intro i o X hiq ho hX;refine hlist i o hiq ho (fun hun=>?_);obtain⟨_,o',d,hf⟩:=hall i hiq hun;have ho':=hf.op;rw[ho]at ho';cases ho';rcases hi' i o hiq ho with⟨t,d,Y,h1,_⟩|⟨h1,_⟩
   ·have:=hf.pure;rw[h1]at this;simp[Bt]at this
   ·rw[hX]at h1;cases h1
  have hS:dN w' S:=w0s.frozen H.gr;have htm:∀t,¬oJ ops q listed t->bs w' S.dom (Os q t) (a'.tmps.getD t undef):=fun t ht=>H.tm t (fun j o hj ho hot=>by
   refine hlist j o hj ho (fun hun=>?_);obtain⟨_,o',d,hf⟩:=hall j hj hun;have ho':=hf.op;rw[ho]at ho';cases ho';have hdst:=hf.dst;rw[hot]at hdst;cases hdst;exact ht ⟨j,o,hun,hf⟩)
  suffices hsuf:∃O' S',(kO ops.toList O' S' (vP jss)/\Ge ops.toList jss (ops.toList.drop q) O' S' K)/\dN w' S'/\(∀t,¬oJ ops q listed t->bs w' S'.dom (O' t) (a'.tmps.getD t undef))/\cw S.dom S'.dom w.drew w' by
   obtain⟨O',S',⟨g1,g2⟩,g3,g4,g5⟩:=hsuf;refine⟨q,O',S',ah _,D.le,H.size,fun i hi1 hi2=>?_,fun j hj hjl=>?_,by rw[bW];exact g2,H.defers,H.tsize,g3,g4,g5⟩
   ·rw[H.tailU i hi1 hi2];constructor
    ·intro h;cases h
    ·intro h;omega
   ·obtain⟨hjs,o,d,hf⟩:=hall j hj hjl;refine⟨o,d,hf,?_⟩;obtain⟨p',d',h1,h2,h3⟩:=ob g1 j hjs;have h4:ops.toList[j]? = some o:=by simpa using hf.op
    rw[h4]at h1;cases h1;have h5:=hf.dst;rw[h2]at h5;cases h5;exact h3
  generalize hpe:(([]:List (Nat×dH))++(cn q).filterMap (fun i=>(al i).bind fun X=>((ops.toList.take q)[i]?).bind fun o=>o.dst.map fun d=>(d,X)))=pend at hK;have hK2:=rF (O1:=fun t=>if oJ ops q listed t then .any else rm (lf (ops.toList.take q)) (Os q) t) (P:=oJ ops q listed) pend _ S _ hK (fun t ht=>by simp only[if_neg ht])
  clear hK;have hK:=hK2;obtain⟨B,hB1,hB2⟩:=H.news
  let idx:=(cn q).filter (fun i=>((al i).bind fun X=>((ops.toList.take q)[i]?).bind fun o=>o.dst.map fun d=>(d,X)).isSome)
  let f:Nat->Nat×dH×Nat:=fun i=>match ((al i).bind fun X=>((ops.toList.take q)[i]?).bind fun o=>o.dst.map fun d=>(d,X))with
   | some (d,X)=>(d,X,B i)
   | ac=>(0,⟨0,0,0,fun _=>.any⟩,B i)
  have hidx:∀i∈idx,∃o X d,i<q/\ops[i]? = some o/\al i=some X/\o.dst=some d/\f i=(d,X,B i):=by
   intro i hii;simp only[idx,oC,eQ]at hii;obtain⟨h1,h2⟩:=hii;obtain⟨p,hp⟩:=Option.isSome_iff_exists.1 h2;have hf:f i=(p.1,p.2,B i):=by simp only[f,hp]
   simp only[Option.bind_eq_some_iff,cr]at hp;obtain⟨X,hX,o,ho,d,hd1,hd2⟩:=hp;rw[eR,if_pos h1]at ho;refine⟨o,X,d,h1,by simpa using ho,hX,hd1,?_⟩
   rw[hf,<-hd2]
  have hpend:pend=(idx.map f).map fun x=>(x.1,x.2.1):=by
   rw[<-hpe,lw,List.map_map];simp only[idx];generalize cn q=rg
   induction rg with
   | nil=>rfl
   | cons i rg ih =>
    simp only[List.filterMap_cons,List.filter_cons]
    cases hc:((al i).bind fun X=>((ops.toList.take q)[i]?).bind fun o=>o.dst.map fun d=>(d,X))with
    | none=>simp only[Option.isSome_none,aR,if_false];exact ih
    | some p=>simp only[Option.isSome_some,if_true,cq];rw[<-ih];simp only[Function.comp,f,hc]
  rw[hpend]at hK
  let M:Nat->Prop:=fun b=>S.dom b∨w.drew.heap.size<=b
  have hnuM:M6 M w.drew:=by
   intro b hb cs ty fr hc;rcases hb with hb|hb
   ·exact w0s.noU b hb cs ty fr hc
   ·exact absurd (dW hc) om
  have up:∀x v,bs w.drew S.dom x v->bs w' M x v:=fun x v hx =>
   bs.grow hnuM (H.gr.any M) x v (bs.turn (M:=S.dom) (M':=M) (fun k hk hm=>by
    rcases hm with hm|hm
    ·exact hm
    ·omega) x v hx)
  have hres:=pn (a:=a') (w:=w') (N:=N) (B0:=w.drew.heap.size) (M:=M) (idx.map f) _ S hK
   (fun b X hX=>by
    obtain⟨cs,h1,h2,h3,h4⟩:=w0s b X hX;exact⟨cs,(H.gr.keep b (dW h1) (fun x=>x)).trans h1,h2,fun j hj=>by obtain⟨u,h5,h6⟩:=h3 j hj;exact⟨u,h5,up _ _ h6⟩,h4⟩)
   (fun t=>by
    by_cases hlt:oJ ops q listed t
    ·simp only[if_pos hlt];simp[bs]
    simp only[if_neg hlt,rm];by_cases hin:(lf (ops.toList.take q)).contains t=true
    ·by_cases hmf:oG (Os q t)=true
     ·simp only[hmf,yY,Bool.and_false,aR,if_false];exact oa hmf (htm t hlt)
     ·simp only[hin,hmf,pD,Bool.and_self,if_true];simp[bs]
    ·simp only[hin,Bool.false_and,aR,if_false];have hno:∀(j:Nat) (o:Oper),j<q->ops[j]? = some o->o.dst≠some t:=by
      intro j o hj ho hdt;apply hin;simp only[lf,List.contains_iff_mem,iq];exact⟨o,cC (i:=j) (by rw[eR,if_pos hj];simpa using ho),hdt⟩
     rw[H.old t hno,stable t q 0 om (ah _) (fun j o _ hj ho=>hno j o hj ho),e0];exact up _ _ (r0.tm t))
   (fun x hx=>by
    obtain⟨i,hii,rfl⟩:=fM.1 hx;obtain⟨o,X,d,h1,h2,h3,h4,h5⟩:=hidx i hii;rw[h5];obtain⟨g1,g2,g3⟩:=hB1 i o X d h1 h2 h3 h4 (halloc i _ _ h1 h2 h3);exact⟨g1,g3⟩)
   (by
    rw[List.map_map];refine nZ (List.Pairwise.filter _ List.nodup_range) (fun i hii j hjj e=>?_);obtain⟨o,X,d,h1,h2,h3,h4,h5⟩:=hidx i hii;obtain⟨o',X',d',h1',h2',h3',h4',h5'⟩:=hidx j hjj;simp only[Function.comp,h5,h5']at e;exact hB2 i j h1 h1' (by rw[h3];rfl) (by rw[h3'];rfl) (halloc i _ _ h1 h2 h3) (halloc j _ _ h1' h2' h3') e)
   (fun x hx=>by
    obtain⟨i,hii,rfl⟩:=fM.1 hx;obtain⟨o,X,d,h1,h2,h3,h4,h5⟩:=hidx i hii;rw[h5];obtain⟨g1,g2,g3⟩:=hB1 i o X d h1 h2 h3 h4 (halloc i _ _ h1 h2 h3);exact⟨w0s.fresh g2,g2⟩)
  obtain⟨O',S',⟨O2,e2,k1⟩,k2,k3,k4⟩:=hres;have hdom:∀k,k<w'.heap.size->S'.dom k->M k:=fun k _ hk=>k4 k hk;refine⟨O2,S',k1,fun b X hX=>?_,fun t ht=>?_,?_⟩
  ·obtain⟨cs,h1,h2,h3,h4⟩:=k2 b X hX;exact⟨cs,h1,h2,fun j hj=>by obtain⟨u,h5,h6⟩:=h3 j hj;exact⟨u,h5,bs.turn hdom _ _ h6⟩,h4⟩
  ·rw[<-e2 t ht];exact bs.turn hdom _ _ (k3 t)
  ·refine⟨H.gr.os,H.gr.tape,H.gr.output,H.gr.size,fun k hk _=>H.gr.keep k hk (fun x=>x),H.gr.shape,fun k hk hm=>?_⟩;rcases k4 k hm with h6|h6
   ·exact h6
   ·exact absurd hk om
 have tailStep:∀listed a' w' i,kC ops q jss K S.dom N w.drew listed a' w'->fY ops listed->i∈cK .any ops listed->wpOp aj ops Q i (fun a'' w''=>oP ops q S (Os q) al N a w.drew (listed.setIfInBounds i true) a'' w''∨kC ops q jss K S.dom N w.drew (listed.setIfInBounds i true) a'' w'') a' w':=by
  intro listed a' w' i T hcl hi;obtain⟨k,O',S',hk1,hk2,hsz,hl,hfr,hL,hdef,hts,hrs,htm,hG⟩:=T.ex;obtain⟨o,ho,hun,haft⟩:=dA hi;have hio:i<ops.size:=(bS.1 ho).1;have hils:i<listed.size:=om
  unfold wpOp;simp only[ho];rw[if_pos (by simp[eB,D.guard i o ho])]
  refine bQ ?_;rcases aI i q with hiq|hiq
  ·
   obtain⟨o',d,hf,hok'⟩:=hfr i hiq hun;have ho':=hf.op;rw[ho]at ho';cases ho';have hdst:=hf.dst
   let Om:Tm:=fun t=>if oJ ops q listed t then .any else O' t
   have hRm:RT Om S' N a' w':=⟨hdef,hts,fun t=>by
    simp only[Om];split
    ·simp[bs]
    ·rename_i hc;exact htm t hc,hrs⟩
   have hLm:=kX (O':=Om) (jA fun t ht=>by
    simp only[Om];rw[if_neg];rintro⟨j,oj,hjl,hfj⟩;have:=haft j (D.reads i o j oj t hiq hfj.lt ho hfj.op hfj.dst ht).2;rw[fz this]at hjl;cases hjl) hok'
   refine lY hLm hRm (fun v w'' hv hg=>bH ⟨k,O',S',hk1,hk2,by simp[hsz],fun j hj1 hj2=>?_,fun j hj1 hj2=>?_,hL,by rw[hJ];exact hdef,by rw[jy];exact hts,hrs.frozen hg,fun t ht=>?_,hG.trans (hg.any _)⟩)
   ·rw[ci _ _ _ _ hils,if_neg om];exact hl j hj1 hj2
   ·rw[ci _ _ _ _ hils]at hj2;by_cases e:j=i
    ·rw[if_pos e]at hj2;cases hj2
    ·rw[if_neg e]at hj2;exact hfr j hj1 hj2
   ·rw[hdst];by_cases e:t=d
    ·subst e;rw[put_eq (by rw[hts];exact dstN i o t ho hdst)];exact hv
    ·rw[jq (by intro e2;cases e2;exact e rfl)]
     refine bs.grow hrs.noU (hg.any _) _ _ (htm t ?_);rintro⟨j,oj,hjl,hfj⟩;refine ht ⟨j,oj,?_,hfj⟩;rw[ci _ _ _ _ hils,if_neg]
     ·exact hjl
     ·rintro rfl;have hoj:=hfj.op;rw[ho]at hoj;cases hoj;have hdj:=hfj.dst;rw[hdst]at hdj;cases hdj;exact e rfl
  ·have hik:i=k:=by
    rcases db i k with h1|h1|h1
    ·rw[(hl i hiq hio).2 h1]at hun;cases hun
    ·exact h1
    ·rcases D.tail i o hiq ho k h1 with h2|⟨_,p,d,h2⟩
     ·have hk3:listed.getD k false=true:=h2.elim (haft k) (eU hcl 12 k i o ho haft);have:=(hl k om om).1 (fz hk3);omega
     ·have:=h2.lt;omega
   subst hik;have hdrop:ops.toList.drop i=o::ops.toList.drop (i+1):=by
    have h1:ops.toList[i]? = some o:=by simpa using ho
    rw[iH (by simpa using hio)]
    congr 1;exact(cO.1 h1).2
   rw[hdrop]at hL;unfold Ge at hL
   let Om:Tm:=fun t=>if oJ ops q listed t then .any else O' t
   have hRm:RT Om S' N a' w':=⟨hdef,hts,fun t=>by
    simp only[Om];split
    ·simp[bs]
    ·rename_i hc;exact htm t hc,hrs⟩
   have hLm:=pV (O':=Om) (jA fun t ht=>by
    simp only[Om];rw[if_neg];rintro⟨j,y,hjl,hfj⟩;have:=haft j ((hfj.tail i o hiq ho).2 ht);rw[fz this]at hjl;cases hjl) hL
   refine kU hLm hRm (fun z v w'' S'' hz hv hs hg=>bH ⟨i+1,O'.put o.dst z,S'',om,om,by simp[hsz],fun j hj1 hj2=>?_,fun j hj1 hj2=>?_,by rw[(om:i+1-q=(i-q)+1)];exact hz.2,by rw[hJ];exact hdef,by rw[jy];exact hts,hs,fun t ht=>?_,hG.trans hg⟩)
   ·rw[ci _ _ _ _ hils];by_cases e:j=i
    ·rw[if_pos e];simp;omega
    ·rw[if_neg e,hl j hj1 hj2];omega
   ·rw[ci _ _ _ _ hils,if_neg om]at hj2;obtain⟨p,d,hf,_⟩:=hfr j hj1 hj2;refine⟨p,d,hf,?_⟩;have hjs:j∈vP (Fn jss (i-q)):=by
     rcases D.tail i o hiq ho j om with h1|h1
     ·rw[fz (h1.elim (haft j) (eU hcl 12 j i o ho haft))]at hj2;cases hj2
     ·exact h1.1
    obtain⟨p',d',h1,h2,h3⟩:=ob hz.1 j hjs;have h4:ops.toList[j]? = some p:=by simpa using hf.op
    rw[h4]at h1;cases h1;have h5:=hf.dst;rw[h2]at h5;cases h5;exact h3
   ·have hlate:¬oJ ops q listed t:=by
     rintro⟨j,y,hjl,hfj⟩;refine ht ⟨j,y,?_,hfj⟩;rw[ci _ _ _ _ hils,if_neg]
     ·exact hjl
     ·have:=hfj.lt;omega
    by_cases e:o.dst=some t
    ·rw[e,put_eq (by rw[hts];exact dstN i o t ho e)]
     rw[show(O'.put (some t) z) t=z by simp[Tm.put_eq]];exact hv
    ·rw[jq e];have hold:=bs.grow hrs.noU hg _ _ (htm t hlate)
     cases hdo:o.dst with
     | none=>rw[tY];exact hold
     | some e'=>rw[nv (fun e2=>e (by rw[hdo,e2]))];exact hold
 have headStep:∀listed a' w' i,oP ops q S (Os q) al N a w.drew listed a' w'->fY ops listed->i∈cK .any ops listed->wpOp aj ops Q i (fun a'' w''=>oP ops q S (Os q) al N a w.drew (listed.setIfInBounds i true) a'' w''∨kC ops q jss K S.dom N w.drew (listed.setIfInBounds i true) a'' w'') a' w':=by
  intro listed a' w' i H hcl hi;obtain⟨o,ho,hun,haft⟩:=dA hi;have hio:i<ops.size:=(bS.1 ho).1;have hils:i<listed.size:=by rw[H.size];exact hio
  rcases aI i q with hiq|hiq
  ·have hset:∀j d,(listed.setIfInBounds i true).getD j d=if j=i then true else listed.getD j d:=fun j d=>ci _ _ _ _ hils
   have gr2:∀{w'':World},cw px px w' w''->cw px px w.drew w'':=fun hg=>H.gr.trans hg;have hS:dN w' S:=w0s.frozen H.gr;have mk:∀(v:Value) (w'':World),cw px px w' w''->(∀d,o.dst=some d->bs w'' S.dom (Os q d) v) ->
     (∃B:Nat->Nat,(∀(j:Nat) (p:Oper) (X:dH) (d:Nat),j<q->ops[j]? = some p->al j=some X->p.dst=some d->(listed.setIfInBounds i true).getD j false=true ->
       (a'.put o.dst v).tmps.getD d undef=.pointer (some ⟨B j,0,ac⟩)/\w.drew.heap.size<=B j/\∃zc,w''.heap[B j]? = some (.cells zc X.ty (0,0))/\ZX X zc) /\
      ∀j k,j<q->k<q->(al j).isSome=true->(al k).isSome=true->(listed.setIfInBounds i true).getD j false=true->(listed.setIfInBounds i true).getD k false=true->B j=B k->j=k) ->
     oP ops q S (Os q) al N a w.drew (listed.setIfInBounds i true) (a'.put o.dst v) w'':=by
    intro v w'' hg hz hB;refine⟨by simp[H.size],fun j hj1 hj2=>?_,by rw[hJ];exact H.defers,by rw[jy];exact H.tsize,gr2 hg,fun t ht=>?_,fun t ht=>?_,hB⟩
    ·rw[hset,if_neg om];exact H.tailU j hj1 hj2
    ·by_cases e:o.dst=some t
     ·rw[e,put_eq (by rw[H.tsize];exact dstN i o t ho e)]
      exact hz t e
     ·rw[jq e];refine bs.grow hS.noU (hg.any _) _ _ (H.tm t (fun j p hj hp hpt=>?_));have:=ht j p hj hp hpt;rw[hset]at this;by_cases e2:j=i
      ·subst e2;rw[ho]at hp;cases hp;exact absurd hpt e
      ·rw[if_neg e2]at this;exact this
    ·rw[jq (ht i o hiq ho)];exact H.old t ht
   rcases hi' i o hiq ho with⟨t,d,X,hop,hdst,hX,hal,hO⟩|⟨hal,z,hz,hO⟩
   ·obtain⟨zc,z1,z2,z3⟩:=yN hX;unfold wpOp;simp only[ho];rw[if_pos (by simp[eB,D.guard i o ho])]
    refine bQ (fL (v:=.pointer (some ⟨w'.heap.size,0,ac⟩)) (w':=w'.alloc (.cells zc t)) (by simp[execOp,hop,z2 w']) (bQ ?_))
    have hg:cw px px w' (w'.alloc (.cells zc t)):=⟨rfl,rfl,rfl,sm,fun k hk _=>m9 w' _ k hk,fun k cs ty fr hc=>⟨cs,by rw[m9 w' _ k (dW hc)];exact hc,rfl⟩,fun _ _ h=>h⟩
    obtain⟨B,hB1,hB2⟩:=H.news;have hBlt:∀(j:Nat) (p:Oper) (Y:dH) (e:Nat),j<q->ops[j]? = some p->al j=some Y->p.dst=some e->listed.getD j false=true->B j<w'.heap.size:=by
     intro j p Y e h1 h2 h3 h4 h5;obtain⟨_,_,zc',hz',_⟩:=hB1 j p Y e h1 h2 h3 h4 h5;exact dW hz'
    have hdsome:∀(j:Nat),j<q->(al j).isSome=true->∃p Y e,ops[j]? = some p/\al j=some Y/\p.dst=some e:=by
     intro j hj hs;have hjs:j<ops.size:=by have:=D.le;omega
     rcases hi' j ops[j] hj (aG hjs)with⟨_,e,Y,_,h2,_,h4,_⟩|⟨h4,_⟩
     ·exact⟨ops[j],Y,e,aG hjs,h4,h2⟩
     ·rw[h4]at hs;cases hs
    refine mk _ _ hg (fun d' hd'=>?_) ⟨fun j=>if j=i then w'.heap.size else B j,fun j p Y e h1 h2 h3 h4 h5=>?_,fun j k h1 h2 h3 h4 h5 h6 h7=>?_⟩
    ·rw[hdst]at hd';cases hd';have:Os q d=.any:=by
      rw[stable d q (i+1) om (ah _) (fun j p hj1 hj2 hp hpd=>by
       have:=D.apart i o j p d hiq hj2 ho hp hdst hpd;omega),hO]
      simp[Tm.put_eq]
     rw[this];simp[bs]
    ·by_cases e2:j=i
     ·subst e2;rw[ho]at h2;cases h2;rw[hdst]at h4;cases h4;rw[hal]at h3;cases h3;simp only[if_true];refine⟨by rw[hdst,put_eq (by rw[H.tsize];exact dstN j o d ho hdst)],H.gr.size,zc,?_,z3⟩
      rw[z1];exact heap_alloc_new w' _
     ·simp only[if_neg e2];rw[hset,if_neg e2]at h5;obtain⟨g1,g2,zc',g3,g4⟩:=hB1 j p Y e h1 h2 h3 h4 h5;refine⟨?_,g2,zc',?_,g4⟩
      ·rw[jq]
       ·exact g1
       ·intro e3;exact e2 (D.apart j p i o e h1 hiq h2 ho h4 e3)
      ·rw[m9 w' _ _ (dW g3)];exact g3
    ·rw[hset]at h5 h6;by_cases e1:j=i
     ·by_cases e2:k=i
      ·rw[e1,e2]
      ·simp only[if_pos e1,if_neg e2]at h7;rw[if_neg e2]at h6;obtain⟨p,Y,e,b1,b2,b3⟩:=hdsome k h2 h4;have:=hBlt k p Y e h2 b1 b2 b3 h6;omega
     ·by_cases e2:k=i
      ·simp only[if_neg e1,if_pos e2]at h7;rw[if_neg e1]at h5;obtain⟨p,Y,e,b1,b2,b3⟩:=hdsome j h1 h3;have:=hBlt j p Y e h1 b1 b2 b3 h5;omega
      ·simp only[if_neg e1,if_neg e2]at h7;rw[if_neg e1]at h5;rw[if_neg e2]at h6;exact hB2 j k h1 h2 h3 h4 h5 h6 h7
   ·classical
    let Oe:Tm:=fun t=>if (∀(j:Nat) (p:Oper),j<q->ops[j]? = some p->p.dst=some t->listed.getD j false=true)then Os q t else .any
    have hRe:RT Oe S N a' w':=⟨H.defers,H.tsize,fun t=>by
     simp only[Oe];split
     ·rename_i hc;exact H.tm t hc
     ·simp[bs],hS⟩
    have hze:xa o Oe S z:=kX (jA fun t ht=>by
     have hc:∀(j:Nat) (p:Oper),j<q->ops[j]? = some p->p.dst=some t->listed.getD j false=true:=fun j p hj hp hpt =>
      haft j (D.reads i o j p t hiq hj ho hp hpt ht).2
     simp only[Oe];rw[if_pos hc,stable t q i om (ah _) (fun j p hj1 hj2 hp hpt=>by
      have:=(D.reads i o j p t hiq hj2 ho hp hpt ht).1;omega)]) hz
    unfold wpOp;simp only[ho];rw[if_pos (by simp[eB,D.guard i o ho])]
    refine bQ (lY hze hRe (fun v w'' hv hg=>bQ ?_));obtain⟨B,hB1,hB2⟩:=H.news;refine mk v w'' hg (fun d hdd=>?_) ⟨B,fun j p Y e h1 h2 h3 h4 h5=>?_,fun j k h1 h2 h3 h4 h5 h6 h7=>?_⟩
    ·have:Os q d=z:=by
      rw[stable d q (i+1) om (ah _) (fun j p hj1 hj2 hp hpd=>by
       have:=D.apart i o j p d hiq hj2 ho hp hdd hpd;omega),hO,hdd]
      simp[Tm.put_eq]
     rw[this];exact hv
    ·have hji:j≠i:=fun e2=>by subst e2;rw[hal]at h3;cases h3
     rw[hset,if_neg hji]at h5;obtain⟨g1,g2,zc',g3,g4⟩:=hB1 j p Y e h1 h2 h3 h4 h5;refine⟨?_,g2,zc',(hg.keep _ (dW g3) (fun x=>x)).trans g3,g4⟩;rw[jq]
     ·exact g1
     ·intro e3;exact hji (D.apart j p i o e h1 hiq h2 ho h4 e3)
    ·rw[hset]at h5 h6;have hji:j≠i:=fun e2=>by subst e2;rw[hal]at h3;cases h3
     have hki:k≠i:=fun e2=>by subst e2;rw[hal]at h4;cases h4
     rw[if_neg hji]at h5;rw[if_neg hki]at h6;exact hB2 j k h1 h2 h3 h4 h5 h6 h7
  ·have hi0:i=q:=by
    rcases aI q i with h|h
    ·exfalso;rcases D.tail i o hiq ho q h with h1|⟨_,p,d,h1⟩
     ·have h2:=fz (h1.elim (haft q) (eU hcl 12 q i o ho haft));rw[H.tailU q (ah _) om]at h2;cases h2
     ·have:=h1.lt;omega
    ·omega
   refine tailStep listed a' w' i (HT listed a' w' H (fun j hj hjl=>?_)) hcl hi;rcases D.tail i o hiq ho j om with h1|h1
   ·rw[fz (h1.elim (haft j) (eU hcl 12 j i o ho haft))]at hjl;cases hjl
   ·have h2:=h1.1;rw[hi0,bW]at h2;exact⟨h2,h1.2⟩
 have first:∀listed,listed.size=ops.size->cK .any ops listed=[]->∀m,m<=ops.size->∀j,j<m->listed.getD j false=true:=by
  intro listed hsz hre m
  induction m with
  | zero=>intro _ j hj;omega
  | succ m ih =>
   intro hm j hj;by_cases e:j<m
   ·exact ih om j e
   ·obtain rfl:j=m:=om
    have hjo:j<ops.size:=om
    cases hv:listed.getD j false with
    | true=>rfl
    | false =>
     have hj2:listed.getD j true=false:=by
      rw[aJ,aG om]at hv ⊢;exact hv
     have:j∈cK .any ops listed:=oZ (aG hjo) hj2 (fun k hk=>ih om k (D.back j _ (aG hjo) k hk));rw[hre]at this;cases this
 refine wp_region_any kr (ji (fun listed a' w'=>fY ops listed/\(oP ops q S (Os q) al N a w.drew listed a' w'∨kC ops q jss K S.dom N w.drew listed a' w')) ?_ ?_ ops.size _ a w.drew ?_ ⟨fun i o ho h=>?_,bQ ?_⟩)
 ·intro listed a' w' i hI hi;obtain⟨hcl,hI⟩:=hI;have hcl':fY ops (listed.setIfInBounds i true):=by
   obtain⟨o,ho,hun,haft⟩:=dA hi;have hgo:∀k,listed.getD k false=true->(listed.setIfInBounds i true).getD k false=true:=fun k hk=>by
    rw[aJ]at hk ⊢;rw[oE];split
    ·split<;>simp_all
    ·exact hk
   intro j p hp hj k hk;by_cases e:j=i
   ·subst e;rw[ho]at hp;cases hp;exact hgo k (haft k hk)
   ·refine hgo k (hcl j p hp ?_ k hk);rw[aJ]at hj ⊢
    rwa [cf (ao e)]at hj
  have e:(fun a'' w''=>fY ops (listed.setIfInBounds i true)/\(oP ops q S (Os q) al N a w.drew (listed.setIfInBounds i true) a'' w''∨kC ops q jss K S.dom N w.drew (listed.setIfInBounds i true) a'' w''))=fun a'' w''=>(oP ops q S (Os q) al N a w.drew (listed.setIfInBounds i true) a'' w''∨kC ops q jss K S.dom N w.drew (listed.setIfInBounds i true) a'' w''):=by
   funext a'' w'';simp[hcl']
  show wpOp aj ops Q i (fun a'' w''=>fY ops (listed.setIfInBounds i true)/\(oP ops q S (Os q) al N a w.drew (listed.setIfInBounds i true) a'' w''∨kC ops q jss K S.dom N w.drew (listed.setIfInBounds i true) a'' w'')) a' w';rw[e];rcases hI with H|T
  ·exact headStep listed a' w' i H hcl hi
  ·exact tailStep listed a' w' i T hcl hi
 ·rintro listed a' w' ⟨_,hI⟩ hre;have fin:kC ops q jss K S.dom N w.drew listed a' w'->Q .normal a' w':=by
   intro T;obtain⟨k,O',S',hk1,hk2,hsz,hl,hfr,hL,hdef,hts,hrs,htm,hG⟩:=T.ex;have hall:=first listed hsz hre ops.size (ah _)
   have hk:k=ops.size:=by
    rcases aI k ops.size with h1|h1
    ·have:=(hl k hk1 h1).1 (fz (hall k h1));omega
    ·omega
   rw[hk,fU sm]at hL
   refine hq O' S' a' w' hL ⟨hdef,hts,fun t=>htm t ?_,hrs⟩ ((cw.drew S.dom w).trans hG);rintro⟨j,y,hjl,hfj⟩;rw[fz (hall j (by have:=hfj.lt;have:=D.le;omega))]at hjl;cases hjl
  rcases hI with H|T
  ·refine fin (HT listed a' w' H (fun j hj hjl=>?_));rw[fz (first listed H.size hre ops.size (ah _) j (by have:=D.le;omega))]at hjl;cases hjl
  ·exact fin T
 ·simp only[IY];exact bV mJ sm
 ·rw[ns]at h;cases h
 ·refine⟨sm,fun i _ hi2=>zG hi2,hr.defers,hr.size,cw.refl _ _,fun t ht=>?_,fun _ _=>rfl,fun _=>0,fun i o X d h1 h2 h3 h4 h5=>?_,fun i j h1 h2 h3 h4 h5 h6 h7=>?_⟩
  ·have hno:∀(j:Nat) (o:Oper),j<q->ops[j]? = some o->o.dst≠some t:=by
    intro j o hj ho hdt;have:=ht j o hj ho hdt;rw[ns]at this;cases this
   rw[stable t q 0 om (ah _) (fun j o _ hj ho=>hno j o hj ho),e0];exact r0.tm t
  ·rw[ns]at h5;cases h5
  ·rw[ns]at h5;cases h5
def yO(ops:Array Oper):Bool:=ops.toList.zipIdx.all (fun p=>(aft p.1).all (fun k=>decide (k<p.2)))
def xJ(ops:Array Oper)(o:Oper)(O:Tm)(S:St)(K:Tm->St->Prop):Prop:=match o.guard with
 | ac=>wB o O S (fun z S'=>K (O.put o.dst z) S')
 | some (j,want)=>(match AM ops O j with
  | .bool b=>(b=want->wB o O S (fun z S'=>K (O.put o.dst z) S'))/\(b=!want->K (O.put o.dst .any) S)
  | _=>False)
def awI(ops:Array Oper)(O:Tm)(S:St)(K:Tm->St->Prop):Prop:=∃P:(Nat->Bool)->Tm->St->Prop,yO ops=true/\P (fun _=>false) O S /\
 (∀(i:Nat) (o:Oper),ops[i]? = some o->∀L O S,P L O S->L i=false->(∀k∈aft o,L k=true)->xJ ops o O S (P (fun k=>if k=i then true else L k))) /\
 (∀L O S,P L O S->(∀i,i<ops.size->L i=true)->K O S)
theorem FG{ops:Array Oper}{N id:Nat}{Q:Exit->Act->World->Prop}{K:Tm->St->Prop}{O:Tm}{S:St}{a:Act}{w:World}(h:awI ops O S K)(hr:RT O S N a w)(hd:qk N ops.toList=true)
  (hq:∀O' S' a' w',K O' S'->RT O' S' N a' w'->cw S.dom S'.dom w w'->Q .normal a' w'):(Code.region id ops true).wp aj Q a w:=by
 obtain⟨P,hok,h0,hstep,hend⟩:=h;have back:∀(j:Nat) (o:Oper),ops[j]? = some o->∀k∈aft o,k<j:=by
  intro j o ho k hk;have h1:=aB.1 hok (o,j) (gn (by simpa using ho))
  have h2:=aB.1 h1 k hk;simpa using h2
 have w0s:dN w.drew S:=hr.st.drew;have r0:RT O S N a w.drew:=⟨hr.defers,hr.size,fun t=>bs.grow hr.st.noU (cw.drew _ w) _ _ (hr.tm t),w0s⟩;have dstN:∀(i:Nat) (o:Oper) (d:Nat),ops[i]? = some o->o.dst=some d->d<N:=by
  intro i o d ho hdd;have:=aB.1 hd o (cC (by simpa using ho:ops.toList[i]? = some o))
  rw[hdd]at this;simpa using this
 have first:∀listed,listed.size=ops.size->cK .any ops listed=[]->∀m,m<=ops.size->∀j,j<m->listed.getD j false=true:=by
  intro listed hsz hre m
  induction m with
  | zero=>intro _ j hj;omega
  | succ m ih =>
   intro hm j hj;by_cases e:j<m
   ·exact ih om j e
   ·obtain rfl:j=m:=om
    have hjo:j<ops.size:=om
    cases hv:listed.getD j false with
    | true=>rfl
    | false =>
     have hj2:listed.getD j true=false:=by
      rw[aJ,aG om]at hv ⊢;exact hv
     have:j∈cK .any ops listed:=oZ (aG hjo) hj2 (fun k hk=>ih om k (back j _ (aG hjo) k hk));rw[hre]at this;cases this
 refine wp_region_any kr (ji (fun listed a' w'=>listed.size=ops.size/\∃O' S',P (fun i=>listed.getD i false) O' S'/\RT O' S' N a' w'/\cw S.dom S'.dom w.drew w') ?_ ?_ ops.size _ a w.drew ?_ ⟨sm,O,S,?_,r0,cw.refl _ _⟩)
 ·rintro listed a' w' i ⟨hsz,O',S',hP,hR,hG⟩ hi;obtain⟨o,ho,hun,haft⟩:=dA hi;have hil:i<ops.size:=(bS.1 ho).1;have hun2:listed.getD i false=false:=by
   rw[aJ,aG om]at hun ⊢;exact hun
  have hL:(fun k=>listed.getD k false) i=false:=hun2;have h1:=hstep i o ho _ O' S' hP hL haft;have hset:(fun k=>(listed.setIfInBounds i true).getD k false)=(fun k=>if k=i then true else listed.getD k false):=by
   funext k;exact ci listed i k false om
  have nxt:∀z v w'' S'',P (fun k=>if k=i then true else listed.getD k false) (O'.put o.dst z) S''->bs w'' S''.dom z v->dN w'' S''->cw S'.dom S''.dom w' w'' ->
    ((listed.setIfInBounds i true).size=ops.size/\∃O1 S1,P (fun i_1=>(listed.setIfInBounds i true).getD i_1 false) O1 S1/\RT O1 S1 N (a'.put o.dst v) w''/\cw S.dom S1.dom w.drew w''):=by
   intro z v w'' S'' hz hv hs hg;refine⟨by simp[hsz],_,S'',?_,hR.put hg hs (fun d hdd=>dstN i o d ho hdd) hv,hG.trans hg⟩
   rw[hset];exact hz
  unfold wpOp;simp only[ho];unfold xJ at h1
  cases hgd:o.guard with
  | none =>
   rw[hgd]at h1;rw[if_pos (by simp[eB,hgd])]
   exact bQ (kU h1 hR (fun z v w'' S'' hz hv hs hg=>nxt z v w'' S'' hz hv hs hg))
  | some p =>
   obtain⟨j,want⟩:=p;rw[hgd]at h1;simp only at h1
   cases hy:AM ops O' j<;>rw[hy]at h1<;>try exact h1.elim
   rename_i b;have hyv:=xS hR hy;by_cases hb:b=want
   ·rw[if_pos (by simp[eB,hgd,hyv,hb])]
    exact bQ (kU (h1.1 hb) hR (fun z v w'' S'' hz hv hs hg=>nxt z v w'' S'' hz hv hs hg))
   ·rw[if_neg (by simp[eB,hgd,hyv,hb])]
    have hb2:b=!want:=by cases b<;>cases want<;>simp_all
    exact nxt .any undef w' S' (h1.2 hb2) (by simp[bs]) hR.st (cw.refl _ _)
 ·rintro listed a' w' ⟨hsz,O',S',hP,hR,hG⟩ hre;exact hq O' S' a' w' (hend _ O' S' hP (fun i hi=>first listed hsz hre ops.size (ah _) i hi)) hR ((cw.drew S.dom w).trans hG)
 ·simp only[IY];exact bV mJ sm
 ·have e:(fun i=>(iJ ops.size false).getD i false)=fun _=>false:=by funext i;exact ns _ _
  show P (fun i=>(iJ ops.size false).getD i false) O S;rw[e];exact h0
inductive AX where
 | normal
 | ret
 | exit (id:Nat)
def AX.seq(k:Tm->St->Prop)(Q:AX->Tm->St->Prop):AX->Tm->St->Prop
 | .normal=>k
 | .ret=>Q .ret
 | .exit i=>Q (.exit i)
def AX.blk(id:Nat)(Q:AX->Tm->St->Prop):AX->Tm->St->Prop
 | .normal=>Q .normal
 | .ret=>Q .ret
 | .exit i=>if i=id then Q .normal else Q (.exit i)
def Ke(ops:Array Oper)(O:Tm)(S:St)(K:Tm->St->Prop):Prop:=awD ops O S K∨awF ops O S K∨awG ops O S K∨awA ops O S K∨awI ops O S K
def aw:Code->(AX->Tm->St->Prop)->Tm->St->Prop
 | .skip,Q,O,S=>Q .normal O S
 | .region _ ops false,Q,O,S=>tR ops ops.toList O S (Q .normal)
 | .region _ ops true,Q,O,S=>Ke ops O S (Q .normal)
 | .seq x y,Q,O,S=>aw x (AX.seq (aw y Q) Q) O S
 | .cond c x y,Q,O,S=>(match ev O c with
  | .bool b=>(b=true->aw x Q O S)/\(b=false->aw y Q O S)
  | _=>False)
 | .block id c,Q,O,S=>aw c (AX.blk id Q) O S
 | .loop c,Q,O,S=>∃(I:Tm->St->Prop) (μ:Tm->St->Nat),I O S/\∀O S,I O S->aw c (AX.seq (fun O' S'=>I O' S'/\μ O' S' < μ O S) Q) O S
 | .exit id,Q,O,S=>Q (.exit id) O S
 | .ret,Q,O,S=>Q .ret O S
 | .scope c,Q,O,S=>aw c Q O S
 | .label _,Q,O,S=>Q .normal O S
 | _,_,_,_=>False
def iE(N:Nat):Code->Bool
 | .skip=>true
 | .region _ ops _=>qk N ops.toList
 | .seq x y=>iE N x&&iE N y
 | .cond _ x y=>iE N x&&iE N y
 | .block _ c=>iE N c
 | .loop c=>iE N c
 | .exit _=>true
 | .ret=>true
 | .scope c=>iE N c
 | .label _=>true
 | _=>false
def Post(Q:AX->Tm->St->Prop)(D:Nat->Prop)(N:Nat)(w0:World):Exit->Act->World->Prop
 | .normal,a,w=>∃O S,Q .normal O S/\RT O S N a w/\cw D S.dom w0 w
 | .ret,a,w=>∃O S,Q .ret O S/\RT O S N a w/\cw D S.dom w0 w
 | .exit i,a,w=>∃O S,Q (.exit i) O S/\RT O S N a w/\cw D S.dom w0 w
 | _,_,_=>False
theorem lu{N:Nat}:∀(c:Code) (Q:AX->Tm->St->Prop) (O:Tm) (S:St) (D:Nat->Prop) (w0:World) (a:Act) (w:World),aw c Q O S->iE N c=true->RT O S N a w->cw D S.dom w0 w->c.wp aj (Post Q D N w0) a w
 | .skip,Q,O,S,D,w0,a,w,h,_,hr,hg=>wp_skip ⟨O,S,h,hr,hg⟩
 | .region id ops false,Q,O,S,D,w0,a,w,h,hc,hr,hg=>by
  refine wp_region_list (sS ops.toList h hr hc (fun O' S' a' w' h1 h2 h3=>⟨O',S',h1,h2,hg.trans h3⟩))
 | .region id ops true,Q,O,S,D,w0,a,w,h,hc,hr,hg =>
  h.elim (fun h=>FJ h hr hc (fun O' S' a' w' h1 h2 h3=>⟨O',S',h1,h2,hg.trans h3⟩)) (fun h=>h.elim (fun h=>FI h hr hc (fun O' S' a' w' h1 h2 h3=>⟨O',S',h1,h2,hg.trans h3⟩)) (fun h=>h.elim (fun h=>FH h hr hc (fun O' S' a' w' h1 h2 h3=>⟨O',S',h1,h2,hg.trans h3⟩)) (fun h=>h.elim (fun h=>FK h hr hc (fun O' S' a' w' h1 h2 h3=>⟨O',S',h1,h2,hg.trans h3⟩)) (fun h=>FG h hr hc (fun O' S' a' w' h1 h2 h3=>⟨O',S',h1,h2,hg.trans h3⟩)))))
 | .seq x y,Q,O,S,D,w0,a,w,h,hc,hr,hg=>by
  simp only[iE,aA]at hc;simp only[aw]at h;refine wp_seq (Code.wp_mono ?_ (lu x _ O S D w0 a w h hc.1 hr hg));intro e a' w' hp
  cases e with
  | normal=>obtain⟨O',S',h1,h2,h3⟩:=hp;exact lu y Q O' S' D w0 a' w' h1 hc.2 h2 h3
  | ret=>exact hp
  | exit i=>exact hp
  | goto l=>exact hp.elim
  | panic ch=>exact hp.elim
  | outgrown=>exact hp.elim
 | .cond c x y,Q,O,S,D,w0,a,w,h,hc,hr,hg=>by
  simp only[iE,aA]at hc;simp only[aw]at h;have hv:=hr.ev c
  cases hcv:ev O c<;>rw[hcv]at h hv<;>try exact h.elim
  rename_i b;simp only[bs]at hv
  cases b
  ·exact wp_cond_false hv (lu y Q O S D w0 a w (h.2 rfl) hc.2 hr hg)
  ·exact wp_cond_true hv (lu x Q O S D w0 a w (h.1 rfl) hc.1 hr hg)
 | .block id c,Q,O,S,D,w0,a,w,h,hc,hr,hg=>by
  simp only[iE]at hc;simp only[aw]at h;refine wp_block (Code.wp_mono ?_ (lu c _ O S D w0 a w h hc hr hg));intro e a' w' hp
  cases e with
  | normal=>exact hp
  | ret=>exact hp
  | exit i =>
   obtain⟨O',S',h1,h2,h3⟩:=hp;simp only[AX.blk]at h1;simp only[Exit.inBlock];split at h1
   ·rename_i e;subst e;simp;exact⟨O',S',h1,h2,h3⟩
   ·rename_i e;simp[e];exact⟨O',S',h1,h2,h3⟩
  | goto l=>exact hp.elim
  | panic ch=>exact hp.elim
  | outgrown=>exact hp.elim
 | .loop c,Q,O,S,D,w0,a,w,h,hc,hr,hg=>by
  simp only[iE]at hc;simp only[aw]at h;obtain⟨I,μ,hI,hround⟩:=h;have key:∀n O S a w,μ O S<n->I O S->RT O S N a w->cw D S.dom w0 w->Code.rounds aj c (Post Q D N w0) n a w:=by
   intro n
   induction n with
   | zero=>intro O S a w h1;omega
   | succ n ih =>
    intro O S a w h1 h2 h3 h4;refine Code.wp_mono ?_ (lu c _ O S D w0 a w (hround O S h2) hc h3 h4);intro e a' w' hp
    cases e with
    | normal =>
     obtain⟨O',S',⟨k1,k2⟩,k3,k4⟩:=hp;exact ih O' S' a' w' om k1 k3 k4
    | ret=>exact hp
    | exit i=>exact hp
    | goto l=>exact hp.elim
    | panic ch=>exact hp.elim
    | outgrown=>exact hp.elim
  exact wp_loop_rounds (μ O S+1) (key _ O S a w om hI hr hg)
 | .exit id,Q,O,S,D,w0,a,w,h,_,hr,hg=>wp_exit ⟨O,S,h,hr,hg⟩
 | .ret,Q,O,S,D,w0,a,w,h,_,hr,hg=>wp_ret ⟨O,S,h,hr,hg⟩
 | .rangeFunc ..,_,_,_,_,_,_,_,h,_,_,_=>h.elim
 | .scope c,Q,O,S,D,w0,a,w,h,hc,hr,hg=>by
  simp only[iE]at hc;simp only[aw]at h;refine wp_scope_straight (Code.wp_mono ?_ (lu c Q O S D w0 a w h hc hr hg));intro e a' w' hp
  cases e with
  | normal=>exact hp
  | ret=>exact hp
  | exit i=>exact hp
  | goto l=>exact hp.elim
  | panic ch=>exact hp.elim
  | outgrown=>exact hp.elim
 | .label _,Q,O,S,D,w0,a,w,h,_,hr,hg=>wp_label ⟨O,S,h,hr,hg⟩
 | .goto _,_,_,_,_,_,_,_,h,_,_,_=>h.elim
 | .refuse _,_,_,_,_,_,_,_,h,_,_,_=>h.elim
def tS:List ResultVar->Tm->St->(List AV->Prop)->Prop
 | [],_,_,K=>K []
 | .tmp t::r,O,S,K=>tS r O S (fun l=>K (O t::l))
 | .cell p ty::r,O,S,K=>nK ty (O p) S (fun z=>tS r O S (fun l=>K (z::l)))
def oU:List AV->AV
 | [x]=>x
 | l=>.tup l
theorem zF{N:Nat}{O:Tm}{S:St}{a:Act}{w:World}(hr:RT O S N a w):∀(rs:List ResultVar) (K:List AV->Prop),tS rs O S K ->
  ∃l vs,K l/\bq w S.dom l vs/\vs.length=rs.length/\(rs.mapM (m:=Sem) fun
   | .tmp t=>pure (a.tmps.getD t undef)
   | .cell p t=>do loadVar t (<-asAddr (a.tmps.getD p undef))).run aj w=.ok vs w
 | [],K,h=>⟨[],[],h,by simp[bq],rfl,sm⟩
 | .tmp t::r,K,h=>by
  obtain⟨l,vs,h1,h2,h3,h4⟩:=zF hr r _ h;exact⟨O t::l,a.tmps.getD t undef::vs,h1,by simp only[bq];exact⟨hr.tm t,h2⟩,by simp[h3],by simp only[List.mapM_cons,Sem.run_bind,Sem.run_pure,Result.andThen_ok,h4]⟩
 | .cell p ty::r,K,h=>by
  obtain⟨z,v,hz,hv,hrun⟩:=pq h hr.st (hr.tm p);obtain⟨l,vs,h1,h2,h3,h4⟩:=zF hr r _ hz;have hp:∃ad,a.tmps.getD p undef=.pointer (some ad):=by
   have hx:=hr.tm p;simp only[tS]at h
   cases hxv:O p<;>rw[hxv]at h hx<;>simp only[nK]at h
   ·simp only[bs]at hx;exact⟨_,hx⟩
   ·simp only[bs]at hx;obtain⟨b,off,u,hx,_⟩:=hx;exact⟨_,hx⟩
   ·simp only[bs]at hx;exact⟨_,hx⟩
  obtain⟨ad,hp⟩:=hp;rw[hp]at hrun;have hl:(loadVar ty ad).run aj w=.ok v w:=by simpa [Instr.loadAt,Instr.sureAddr]using hrun
  have haddr:(asAddr (.pointer (some ad))).run aj w=.ok ad w:=by simp[asAddr]
  exact⟨z::l,v::vs,h1,by simp only[bq];exact⟨hv,h2⟩,by simp[h3],by simp only[List.mapM_cons,Sem.run_bind,Sem.run_pure,Result.andThen_ok,hp,haddr,hl,h4]⟩
def E5(args:List AV):Tm:=fun t=>args.getD t .any
theorem I1{w:World}{M:Nat->Prop}:∀(args:List AV) (vs:List Value) (k:Nat),bq w M args vs->∀t,bs w M (E5 args t) ((vs.toArray++iJ k undef).getD t undef):=by
 intro args vs k h t;have hu:∀(j:Nat),(iJ k undef).getD j undef=undef:=fun j=>by
  rw[aJ,Array.getElem?_replicate];split<;>rfl
 rcases aI t args.length with h1|h1
 ·have hz:args[t]? = some (args[t]):=List.getElem?_eq_getElem h1;obtain⟨v,h2,h3⟩:=rT args vs h t _ hz;have ht:t<vs.length:=(cO.1 h2).1;have:(vs.toArray++iJ k undef).getD t undef=v:=by
   rw[aJ,Array.getElem?_append_left (by simpa using ht)]
   simp[h2]
  rw[this];simp only[E5,cL,hz,ge];exact h3
 ·have:E5 args t=.any:=by simp[E5,cL,List.getElem?_eq_none h1]
  rw[this];simp[bs]
theorem wJ{w:World}{M:Nat->Prop}:∀(l:List AV) (vs:List Value),bq w M l vs->vs.length=l.length
 | [],[],_=>rfl
 | _::l,_::vs,h=>by simp only[bq]at h;simp[wJ l vs h.2]
 | [],_::_,h=>by simp[bq]at h
 | _::_,[],h=>by simp[bq]at h
def Dz(rs:List ResultVar)(post:AV->St->Prop):AX->Tm->St->Prop
 | .normal,O,S=>tS rs O S (fun l=>post (oU l) S)
 | .ret,O,S=>tS rs O S (fun l=>post (oU l) S)
 | .exit _,_,_=>False
theorem mO{f:Nat}{fn:Func}{c:Code}(hf:aj.funcs[f]? = some fn)(hb:fn.body=some c){args:List AV}{S:St}{post:AV->St->Prop}(N:Nat)(hN:fn.ntmps=N)(hok:iE N c=true)(hlen:args.length<=N)
  (h:aw c (Dz fn.results.toList post) (E5 args) S):cS f args S post:=by
 intro w vs hs hr;refine calls_of_wp hf hb ?_;have hvl:=wJ _ _ hr;have hrt:RT (E5 args) S N { tmps:=vs.toArray++iJ (fn.ntmps-vs.toArray.size) undef,defers:=[] } w:=by
  refine⟨rfl,?_,fun t=>I1 args vs _ hr t,hs⟩;simp;omega
 refine Code.wp_mono ?_ (lu c _ _ S S.dom w _ w h hok hrt (cw.refl _ _));have fin:∀a w',(∃O S',tS fn.results.toList O S' (fun l=>post (oU l) S')/\RT O S' N a w'/\cw S.dom S'.dom w w')->a.defers=[]/\∃v,(results fn a.tmps).run aj w'=.ok v w'/\∃v' r S',Ending.returned v=.returned v'/\post r S'/\bs w' S'.dom r v'/\dN w' S'/\cw S.dom S'.dom w w':=by
  rintro a w' ⟨O,S',h1,h2,h3⟩;obtain⟨l,us,k1,k2,k3,k4⟩:=zF h2 _ _ h1;have hul:=wJ _ _ k2;refine⟨h2.defers,if h:us.toArray.size=1 then us.toArray[0]else .tuple us.toArray,?_,_,_,S',rfl,k1,?_,h2.st,h3⟩
  ·simp only[results];rw[Array.mapM_eq_mapM_toList];simp only[Sem.run_bind,Sem.run_map,Sem.run_pure];exact(congrArg (fun r:Result (List Value)=>((r.andThen fun a w'=>Result.ok a.toArray w').andThen fun a w'=>Result.ok (if h:a.size=1 then a[0]else Value.tuple a) w')) k4).trans rfl
  ·match l,us,k2,hul with
   | [x],[u],k2,_=>simp only[bq]at k2;simpa [oU]using k2.1
   | [],[],k2,hul =>
    simp only[oU,bs];exact⟨[],sm,by simp[bq]⟩
   | x::y::l,u::u'::us,k2,_ =>
    simp only[oU,bs];exact⟨u::u'::us,sm,k2⟩
 intro e a w' hp
 cases e with
 | normal=>exact fin a w' hp
 | ret=>exact fin a w' hp
 | exit i=>obtain⟨O,S',h1,h2,h3⟩:=hp;exact h1.elim
 | goto l=>exact hp.elim
 | panic ch=>exact hp.elim
 | outgrown=>exact hp.elim
theorem zB{f:Nat}{fn:Func}{c:Code}(hf:aj.funcs[f]? = some fn)(hb:fn.body=some c){args:List AV}{S:St}{post:AV->St->Prop}(N:Nat)(hN:fn.ntmps=N)(hok:iE N c=true)(hlen:args.length<=N)(_hne:fn.results.size≠0)
  (h:aw c (Dz fn.results.toList post) (E5 args) S):cS f args S post:=mO hf hb N hN hok hlen h
theorem cw.below{w w':World}(h:Below w.heap.size w w'):cw px px w w' :=
 ⟨h.os,h.tape,h.output,h.size,fun k hk _=>h.block k hk,fun k cs ty fr hc=>⟨cs,by rw[h.block k (dW hc)];exact hc,rfl⟩,fun _ _ h=>h⟩
def wK(f:Nat)(args:List AV)(z:AV):Prop:=∀S,rU f args S z
theorem LE{f:Nat}{za zb z:Int}(h:∀va vb B w,B<=w.heap.size->d7 w B va za->d7 w B vb zb->Calls aj f #[va,vb] w (dh w z)):wK f [.big za,.big zb] (.big z):=by
 intro S w vs _ hr
 match vs,hr with
 | [va,vb],hr =>
  simp only[bq,bs]at hr;refine(h va vb w.heap.size w (ah _) hr.1 hr.2.1).mono ?_;rintro e w' ⟨v,rfl,h1,h2⟩;exact⟨v,rfl,by simpa [bs]using h1,cw.below h2⟩
 | [],hr=>simp[bq]at hr
 | [_],hr=>simp[bq]at hr
 | _::_::_::_,hr=>simp[bq]at hr
theorem LG{f:Nat}{za z:Int}(h:∀va B w,B<=w.heap.size->d7 w B va za->Calls aj f #[va] w (dh w z)):wK f [.big za] (.big z):=by
 intro S w vs _ hr
 match vs,hr with
 | [va],hr =>
  simp only[bq,bs]at hr;refine(h va w.heap.size w (ah _) hr.1).mono ?_;rintro e w' ⟨v,rfl,h1,h2⟩;exact⟨v,rfl,by simpa [bs]using h1,cw.below h2⟩
 | [],hr=>simp[bq]at hr
 | _::_::_,hr=>simp[bq]at hr
theorem rU.spec{f:Nat}{args:List AV}{S:St}{z:AV}(h:rU f args S z){post:AV->St->Prop}(hp:post z S):cS f args S post:=by
 intro w vs hs hr;refine(h w vs hs hr).mono ?_;rintro e w' ⟨v,rfl,h1,h2⟩;exact⟨v,z,S,rfl,hp,h1,hs.frozen h2,h2.any _⟩
theorem cS.pure{f:Nat}{args:List AV}{z:AV}(hz:oG z=true)(h:cS f args St.none (fun r _=>r=z)):wK f args z:=by
 intro S w vs _ hr;have hd:∀k,k<w.heap.size->St.none.dom k->S.dom k:=fun k _ hk=>absurd rfl hk;refine(h w vs (fun b x hx=>by simp[St.none]at hx) (bq.turn hd _ _ hr)).mono ?_
 rintro e w' ⟨v,r,S',rfl,rfl,h2,h3,h4⟩;exact⟨v,rfl,oa hz h2,h4.os,h4.tape,h4.output,h4.size,fun k hk _=>h4.keep k hk (fun x=>x rfl),h4.shape,fun _ _ h=>h⟩
theorem iW{α:Type}(x:α):∃y:α,y=x:=⟨x,rfl⟩
noncomputable def Aw:Code->(AX->Tm->St->Prop)->Tm->St->Prop:=df (iW aw)
theorem nO:Aw=aw:=dS (iW aw)
noncomputable def AK:Array Oper->List Oper->Tm->St->(Tm->St->Prop)->Prop:=df (iW tR)
theorem tc:AK=tR:=dS (iW tR)
noncomputable def Ga:Array Oper->Tm->St->(Tm->St->Prop)->Prop:=df (iW Ke)
theorem qM:Ga=Ke:=dS (iW Ke)
noncomputable def Cs:List Oper->Tm->St->List (Nat×dH)->(Tm->List (Nat×dH)->Prop)->Prop:=df (iW Ah)
theorem oD:Cs=Ah:=dS (iW Ah)
noncomputable def Ll:List Oper->List (List Nat)->List Oper->Tm->St->(Tm->St->Prop)->Prop:=df (iW Ge)
theorem AJ:Ll=Ge:=dS (iW Ge)
noncomputable def IB:Oper->Tm->St->(AV->St->Prop)->Prop:=df (iW wB)
theorem td:IB=wB:=dS (iW wB)
noncomputable def si:List (Nat×dH)->Tm->St->(Tm->St->Prop)->Prop:=df (iW mh)
theorem sh:si=mh:=dS (iW mh)
structure Ix{α:Type}(x:α):Type where
structure Dep2{α β:Type}(x:α)(y:β):Type where
def aH(S:St)(K:Nat->Prop)(_u:Ix K:=⟨⟩):Prop:=∀b,S b=ac->K b
def Lg(f:Nat)(args:List AV)(S:St)(K:AV->St->Prop)(_u:Ix K:=⟨⟩):Prop:=cS f args S K
def wG(t t':TypeId)(s x:AV)(S:St)(K:AV->St->Prop)(_u:Ix K:=⟨⟩):Prop:=eV t t' s x S K
def FT(t:TypeId)(s x:AV)(S:St)(K:AV->St->Prop)(_u:Ix K:=⟨⟩):Prop:=mi t s x S K
def wD(t:TypeId)(s x:AV)(S:St)(K:AV->St->Prop)(_u:Ix K:=⟨⟩):Prop:=qm t s x S K
noncomputable def AwDK(ops:Array Oper)(O:Tm)(S:St)(K:Tm->St->Prop)(_u:Dep2 ops K:=⟨⟩):Prop:=Ga ops O S K
noncomputable def AwLK(c:Code)(Q:AX->Tm->St->Prop)(O:Tm)(S:St)(_u:Dep2 c Q:=⟨⟩):Prop:=Aw (.loop c) Q O S
theorem aH.intro{S:St}{K:Nat->Prop}(h:∀b,S b=ac->K b):aH S K:=h
def gd(y:AV)(want:Bool)(A B:Prop):Prop:=match y with
 | .bool b=>if b=want then A else B
 | _=>False
def cd(y:AV)(A B:Prop):Prop:=match y with
 | .bool b=>if b=true then A else B
 | _=>False
def wA(c x y:AV)(K:AV->Prop):Prop:=match c with
 | .bool t=>K (if t then x else y)
 | _=>False
def Kh(x:AV)(K:AV->Prop):Prop:=match x with
 | .ptr es b i=>K (.ptr es b i)
 | .pat es y=>K (.pat es y)
 | _=>False
def EK(x:AV)(i:Nat)(K:AV->Prop):Prop:=match x with
 | .tup l=>(match l[i]? with
  | some z=>K z
  | ac=>False)
 | _=>False
def Ao(f:AV)(args:List AV)(S:St)(K:AV->St->Prop):Prop:=match f with
 | .fn f l=>((11<=f/\f<270)/\f≠252/\f≠253)/\Lg f (args++l) S K
 | .mfn f l=>((11<=f/\f<270)/\f≠252/\f≠253)/\Lg f (l++args) S K
 | _=>False
def Hg(f:AV)(args:List AV)(S:St)(z:AV):Prop:=match f with
 | .fn f l=>((11<=f/\f<270)/\f≠252/\f≠253)/\rU f (args++l) S z
 | _=>False
@[congr] theorem gd_congr{y y':AV}{b:Bool}{A B:Prop}(h:y=y'):gd y b A B=gd y' b A B:=by rw[h]
@[congr] theorem cd_congr{y y':AV}{A B:Prop}(h:y=y'):cd y A B=cd y' A B:=by rw[h]
@[congr] theorem K7{c c' x x' y y':AV}{K:AV->Prop}(h:c=c')(h2:x=x')(h3:y=y'):wA c x y K=wA c' x' y' K:=by rw[h,h2,h3]
@[congr] theorem Mn{x x':AV}{K:AV->Prop}(h:x=x'):Kh x K=Kh x' K:=by rw[h]
@[congr] theorem La{x x':AV}{i:Nat}{K:AV->Prop}(h:x=x'):EK x i K=EK x' i K:=by rw[h]
@[congr] theorem Kn{f f':AV}{l l':List AV}{S:St}{K:AV->St->Prop}(h:f=f')(h2:l=l'):Ao f l S K=Ao f' l' S K:=by rw[h,h2]
@[go_sem] theorem gd_tt{A B:Prop}:gd (.bool true) true A B=A:=by simp[gd]
@[go_sem] theorem gd_ff{A B:Prop}:gd (.bool false) false A B=A:=by simp[gd]
@[go_sem] theorem gd_tf{A B:Prop}:gd (.bool true) false A B=B:=by simp[gd]
@[go_sem] theorem gd_ft{A B:Prop}:gd (.bool false) true A B=B:=by simp[gd]
@[go_sem] theorem cd_t{A B:Prop}:cd (.bool true) A B=A:=by simp[cd]
@[go_sem] theorem cd_f{A B:Prop}:cd (.bool false) A B=B:=by simp[cd]
@[go_sem] theorem aPick_t{x y:AV}{K:AV->Prop}:wA (.bool true) x y K=K x:=by simp[wA]
@[go_sem] theorem aPick_f{x y:AV}{K:AV->Prop}:wA (.bool false) x y K=K y:=by simp[wA]
attribute [go_sem] Kh EK Ao Hg qI
section
variable {O O':Tm} {S:St} {K1:AV->Prop} {K2:AV->St->Prop} {K3:Tm->St->Prop} {KS:St->Prop} {x x' y y':AV} {t t2 f:Nat}
@[congr] theorem M1{c:Code}{Q:AX->Tm->St->Prop}(h:O=O'):Aw c Q O S=Aw c Q O' S:=by rw[h]
@[congr] theorem Mg{ops:Array Oper}{l:List Oper}(h:O=O'):AK ops l O S K3=AK ops l O' S K3:=by rw[h]
@[congr] theorem Mi{ops:Array Oper}(h:O=O'):Ga ops O S K3=Ga ops O' S K3:=by rw[h]
@[congr] theorem Mh{l:List Oper}{pend pend':List (Nat×dH)}{H:Tm->List (Nat×dH)->Prop}(h:O=O')(hp:pend=pend'):Cs l O S pend H=Cs l O' S pend' H:=by rw[h,hp]
@[congr] theorem Mf{ops l:List Oper}{js:List (List Nat)}(h:O=O'):Ll ops js l O S K3=Ll ops js l O' S K3:=by rw[h]
@[congr] theorem Kf{pend pend':List (Nat×dH)}(h:O=O')(hp:pend=pend'):si pend O S K3=si pend' O' S K3:=by rw[h,hp]
@[congr] theorem Mm{o:Oper}(h:O=O'):IB o O S K2=IB o O' S K2:=by rw[h]
@[congr] theorem Km{c:Call}(h:O=O'):rL O c S K2=rL O' c S K2:=by rw[h]
@[congr] theorem IJ:lD t S K2=lD t S K2:=rfl
@[congr] theorem Lc(h:x=x'):jg t x S K2=jg t x' S K2:=by rw[h]
@[congr] theorem Ki(h:x=x')(h2:y=y'):jU t x y S K2=jU t x' y' S K2:=by rw[h,h2]
@[congr] theorem Kj(h:x=x'):nK t x S K1=nK t x' S K1:=by rw[h]
@[congr] theorem ID(h:x=x')(h2:y=y'):oh t x y S KS=oh t x' y' S KS:=by rw[h,h2]
@[congr] theorem IG(h:x=x')(h2:y=y'):oi t x y K1=oi t x' y' K1:=by rw[h,h2]
@[congr] theorem IH(h:x=x'):oo t x f K1=oo t x' f K1:=by rw[h]
@[congr] theorem K8(h:x=x'):Am t x K1=Am t x' K1:=by rw[h]
@[congr] theorem Ld{op:BinOp}(h:x=x')(h2:y=y'):Ce op t x y K1=Ce op t x' y' K1:=by rw[h,h2]
@[congr] theorem Ml{op:UnOp}(h:x=x'):K5 op x K1=K5 op x' K1:=by rw[h]
@[congr] theorem Kl(h:x=x'):rK t t2 x K1=rK t t2 x' K1:=by rw[h]
@[congr] theorem II{ps ps':List (Nat×AV)}(h:ps=ps'):pr t ps K1=pr t ps' K1:=by rw[h]
@[congr] theorem DA{n:Nat}{ps ps':List (Nat×AV)}(h:ps=ps'):cW t n ps S K2=cW t n ps' S K2:=by rw[h]
@[congr] theorem IF{lo lo' hi hi' mx mx':Option AV}(h:x=x')(h1:lo=lo')(h2:hi=hi')(h3:mx=mx'):jR t x lo hi mx K1=jR t x' lo' hi' mx' K1:=by rw[h,h1,h2,h3]
@[congr] theorem Il(h:x=x')(h2:y=y'):eV t t2 x y S K2=eV t t2 x' y' S K2:=by rw[h,h2]
@[congr] theorem Kk(h:x=x')(h2:y=y'):qm t x y S K2=qm t x' y' S K2:=by rw[h,h2]
@[congr] theorem K6{rs:List ResultVar}{K:List AV->Prop}(h:O=O'):tS rs O S K=tS rs O' S K:=by rw[h]
@[congr] theorem K9{rs:List ResultVar}{e:AX}(h:O=O'):Dz rs K2 e O S=Dz rs K2 e O' S:=by rw[h]
@[congr] theorem Kv{args args':List AV}{z:AV}(h:args=args'):rU f args S z=rU f args' S z:=by rw[h]
end
section
variable {Q:AX->Tm->St->Prop} {O:Tm} {S:St} {x y c:Code} {id i:Nat} {ops:Array Oper} {K:Tm->St->Prop} {H:AV->St->Prop} {l:List Oper} {o:Oper}
@[go_sem ↓] theorem aw_skip:Aw .skip Q O S=Q .normal O S:=by rw[nO,aw]
@[go_sem ↓] theorem Me:Aw (.region id ops false) Q O S=AK ops ops.toList O S (Q .normal):=by rw[nO,tc,aw]
@[go_sem ↓] theorem aw_draw:Aw (.region id ops true) Q O S=AwDK ops O S (Q .normal):=by unfold AwDK;rw[nO,qM,aw]
@[go_sem ↓] theorem aw_lp:Aw (.loop c) Q O S=AwLK c Q O S:=rfl
@[go_sem ↓] theorem Id:Aw (.seq x y) Q O S=Aw x (AX.seq (Aw y Q) Q) O S:=by rw[nO,aw]
@[go_sem ↓] theorem aw_block:Aw (.block id c) Q O S=Aw c (AX.blk id Q) O S:=by rw[nO,aw]
@[go_sem ↓] theorem aw_exit:Aw (.exit id) Q O S=Q (.exit id) O S:=by rw[nO,aw]
@[go_sem ↓] theorem aw_scope:Aw (.scope x) Q O S=Aw x Q O S:=by rw[nO,aw]
@[go_sem ↓] theorem aw_label{l:Nat}:Aw (.label l) Q O S=Q .normal O S:=by rw[nO,aw]
@[go_sem ↓] theorem aw_ret:Aw .ret Q O S=Q .ret O S:=by rw[nO,aw]
@[go_sem ↓] theorem u9:AX.seq K Q .normal=K:=rfl
@[go_sem ↓] theorem seq_ret:AX.seq K Q .ret=Q .ret:=rfl
@[go_sem ↓] theorem seq_exit:AX.seq K Q (.exit i)=Q (.exit i):=rfl
@[go_sem ↓] theorem Mb:AX.blk id Q .normal=Q .normal:=rfl
@[go_sem ↓] theorem blk_ret:AX.blk id Q .ret=Q .ret:=rfl
@[go_sem ↓] theorem Ia:AX.blk id Q (.exit i)=if i=id then Q .normal else Q (.exit i):=rfl
@[go_sem ↓] theorem awL_nil:AK ops [] O S K=K O S:=by rw[tc,tR]
theorem aM(I:Tm->St->Prop)(μ:Tm->St->Nat)(h0:I O S)(hr:∀O S,I O S->Aw c (AX.seq (fun O' S'=>I O' S'/\μ O' S' < μ O S) Q) O S):Aw (.loop c) Q O S:=by
 rw[nO]at *;exact⟨I,μ,h0,hr⟩
end
theorem JA{b c:Bool}{p q:Prop}:((b=c->p)/\(b=!c->q))=if b=c then p else q:=by
 cases b<;>cases c<;>simp
theorem Ha{b:Bool}{p q:Prop}:((b=true->p)/\(b=false->q))=if b=true then p else q:=by
 cases b<;>simp
@[go_sem ↓] theorem Dt{e:Operand}{x y:Code}{Q:AX->Tm->St->Prop}{O:Tm}{S:St}:Aw (.cond e x y) Q O S=cd (ev O e) (Aw x Q O S) (Aw y Q O S):=by
 rw[nO,aw];unfold cd
 cases ev O e<;>first|rfl|exact Ha
@[go_sem ↓] theorem awL_go{ops:Array Oper}{l:List Oper}{O:Tm}{S:St}{K:Tm->St->Prop}{o:Oper}:AK ops (o::l) O S K=(match o.guard with
  | ac=>IB o O S (fun z S'=>AK ops l (O.put o.dst z) S' K)
  | some (j,want)=>gd (AM ops O j) want (IB o O S (fun z S'=>AK ops l (O.put o.dst z) S' K)) (AK ops l (O.put o.dst .any) S K)):=by
 rw[tc,td,tR]
 cases o.guard with
 | none=>rfl
 | some p =>
  obtain⟨j,want⟩:=p;simp only[gd]
  cases AM ops O j<;>first|rfl|exact JA
@[go_sem ↓] theorem aCall_go{O:Tm}{c:Call}{S:St}{K:AV->St->Prop}:rL O c S K=(match c.callee with
 | .value f=>Ao (ev O f) (c.args.toList.map (ev O)) S K
 | .builtin .len=>(match c.args.toList,c.argTypes.toList with
  | [x],[t]=>Am t (ev O x) (fun z=>K z S)
  | _,_=>False)
 | .builtin .max=>(match c.args.toList with
  | [x,y]=>Ik (ev O x) (ev O y) (fun z=>K z S)
  | _=>False)
 | .builtin .append=>(match c.args.toList,c.argTypes.toList with
  | [s,x],[t,t']=>if t'=3 then FT t (ev O s) (ev O x) S K else wG t t' (ev O s) (ev O x) S K
  | _,_=>False)
 | .builtin .copy=>(match c.args.toList,c.argTypes.toList with
  | [s,x],[t,_]=>wD t (ev O s) (ev O x) S K
  | _,_=>False)
 | _=>False):=rfl
@[go_sem ↓] theorem AOp_go{o:Oper}{O:Tm}{S:St}{K:AV->St->Prop}:IB o O S K=(match o.op with
  | .move x=>K (ev O x) S
  | .assign x=>K (ev O x) S
  | .pick c x y=>wA (ev O c) (ev O x) (ev O y) (fun z=>K z S)
  | .alloc t=>lD t S K
  | .box t x=>jg t (ev O x) S K
  | .build t ps=>pr t (ps.toList.map fun p=>(p.1,ev O p.2)) (fun z=>K z S)
  | .buildSlice t n ps=>cW t n (ps.toList.map fun p=>(p.1,ev O p.2)) S K
  | .load t x=>nK t (ev O x) S (fun z=>K z S)
  | .store t x y=>oh t (ev O x) (ev O y) S (fun S'=>K .any S')
  | .nilCheck x=>Kh (ev O x) (fun z=>K z S)
  | .binOp op t x y _=>Ce op t (ev O x) (ev O y) (fun z=>K z S)
  | .unOp op _ x=>K5 op (ev O x) (fun z=>K z S)
  | .convert s d x=>rK s d (ev O x) (fun z=>K z S)
  | .makeFunc (.func f) fi cs=>qI f (fi.toList.map (ev O)) (cs.toList.map (ev O)) (fun z=>K z S)
  | .makeSlice t x y=>jU t (ev O x) (ev O y) S K
  | .slice t x lo hi mx=>jR t (ev O x) (lo.map (ev O)) (hi.map (ev O)) (mx.map (ev O)) (fun z=>K z S)
  | .fieldAddr t x f=>oo t (ev O x) f (fun z=>K z S)
  | .indexAddr t x i=>oi t (ev O x) (ev O i) (fun z=>K z S)
  | .index t x i=>An t (ev O x) (ev O i) (fun z=>K z S)
  | .extract x i=>EK (ev O x) i (fun z=>K z S)
  | .call c=>rL O c S K
  | _=>False):=by rw[td,wB]<;>rfl
theorem g9{f:Nat}{fn:Func}{c:Code}(hf:aj.funcs[f]? = some fn)(hb:fn.body=some c){args:List AV}{S:St}{post:AV->St->Prop}(N:Nat)(hN:fn.ntmps=N)(hok:iE N c=true)(hlen:args.length<=N)
  (h:Aw c (Dz fn.results.toList post) (E5 args) S):cS f args S post:=mO hf hb N hN hok hlen (by rw[nO]at h;exact h)
theorem aD{f:Nat}{fn:Func}{c:Code}(hf:aj.funcs[f]? = some fn)(hb:fn.body=some c){args:List AV}{S:St}{post:AV->St->Prop}(N:Nat)(hN:fn.ntmps=N)(hok:iE N c=true)(hlen:args.length<=N)(hne:fn.results.size≠0)
  (h:Aw c (Dz fn.results.toList post) (E5 args) S):cS f args S post:=zB hf hb N hN hok hlen hne (by rw[nO]at h;exact h)
@[go_sem] theorem Jj{O:Tm}{d:Nat}{x:AV}:O.put (some d) x d=x:=by simp[Tm.put_eq]
@[go_sem] theorem GS{O:Tm}{d t:Nat}{x:AV}(h:t≠d):O.put (some d) x t=O t:=by simp[Tm.put_eq,h]
@[go_sem] theorem GR{O:Tm}{x:AV}:O.put ac x=O:=by rw[Tm.put_eq]
noncomputable def KL(k:Nat):List AV->Tm
 | []=>fun _=>.any
 | a::l=>(KL (k+1) l).put (some k) a
theorem GD:∀(l:List AV) (k t:Nat),KL k l t=if k<=t then l.getD (t-k) .any else .any
 | [],k,t=>by simp[KL]
 | a::l,k,t=>by
  simp only[KL,Tm.put_eq];by_cases e:t=k
  ·subst e;simp
  ·rw[if_neg e,GD l (k+1) t];by_cases h:k<=t
   ·rw[if_pos om,if_pos h,(om:t-k=(t-(k+1))+1)];simp
   ·rw[if_neg om,if_neg h]
theorem aQ(l:List AV):E5 l=KL 0 l:=by funext t;rw[GD];simp[E5]
@[go_sem] theorem tmP_nil{k:Nat}:KL k []=fun _=>.any:=rfl
@[go_sem] theorem tmP_cons{k:Nat}{a:AV}{l:List AV}:KL k (a::l)=(KL (k+1) l).put (some k) a:=rfl
@[go_sem ↓] theorem alloc50{S:St}{K:AV->St->Prop}:lD 50 S K=aH S (fun b=>K (.ptr 2 b 0) (S.upd b ⟨50,2,1,fun _=>.big 0⟩)):=rfl
@[go_sem ↓] theorem alloc52{S:St}{K:AV->St->Prop}:lD 52 S K=aH S (fun b=>K (.ptr 1 b 0) (S.upd b ⟨52,1,1,fun _=>.nil⟩)):=rfl
@[go_sem ↓] theorem alloc4{S:St}{K:AV->St->Prop}:lD 4 S K=aH S (fun b=>K (.ptr 1 b 0) (S.upd b ⟨4,1,1,fun _=>.bool false⟩)):=rfl
@[go_sem ↓] theorem alloc167{S:St}{K:AV->St->Prop}:lD 167 S K=aH S (fun b=>K (.ptr 2 b 0) (S.upd b ⟨167,2,2,fun _=>.big 0⟩)):=rfl
@[go_sem] theorem bZ{S:St}{b:Nat}{X:dH}:S.upd b X b=some X:=by simp[St.upd]
@[go_sem] theorem aP{S:St}{b c:Nat}{X:dH}(h:c≠b):S.upd b X c=S c:=by simp[St.upd,h]
@[go_sem] theorem slots_2:d9 2=some (1,1):=rfl
@[go_sem] theorem slots_3:d9 3=some (1,1):=rfl
@[go_sem] theorem slots_4:d9 4=some (1,1):=rfl
@[go_sem] theorem slots_5:d9 5=some (1,1):=rfl
@[go_sem] theorem slots_22:d9 22=some (1,1):=rfl
@[go_sem] theorem slots_25:d9 25=some (1,1):=rfl
@[go_sem] theorem slots_28:d9 28=some (1,1):=rfl
@[go_sem] theorem slots_29:d9 29=some (1,1):=rfl
@[go_sem] theorem slots_34:d9 34=some (1,1):=rfl
@[go_sem] theorem slots_48:d9 48=some (1,1):=rfl
@[go_sem] theorem KR:fC 50 0=ac:=rfl
@[go_sem] theorem KQ:fC 50 1=ac:=rfl
@[go_sem] theorem elemT_48:c9 48=ac:=rfl
@[go_sem] theorem slots_41:d9 41=some (1,1):=rfl
@[go_sem] theorem slots_52:d9 52=some (1,1):=rfl
@[go_sem] theorem slots_59:d9 59=some (1,1):=rfl
@[go_sem] theorem slots_97:d9 97=some (1,1):=rfl
@[go_sem] theorem MO:d9 146=some (1,1):=rfl
@[go_sem] theorem MN:d9 158=some (1,1):=rfl
@[go_sem] theorem MJ:d9 192=some (1,1):=rfl
@[go_sem] theorem MG:d9 216=some (1,1):=rfl
@[go_sem] theorem slots_50:d9 50=some (2,1):=rfl
@[go_sem] theorem ML:d9 167=some (2,2):=rfl
@[go_sem] theorem MI:d9 195=some (2,2):=rfl
@[go_sem] theorem MH:d9 197=some (2,7):=rfl
@[go_sem] theorem slots_24:d9 24=some (1,4):=rfl
@[go_sem] theorem slots_27:d9 27=some (1,6):=rfl
@[go_sem] theorem MP:d9 107=some (1,2):=rfl
@[go_sem] theorem MM:d9 160=some (1,4):=rfl
@[go_sem] theorem MK:d9 183=some (1,2):=rfl
@[go_sem] theorem ME:d9 218=some (1,2):=rfl
@[go_sem] theorem elemT_22:c9 22=some 41:=rfl
@[go_sem] theorem elemS_41:bP 41=1:=rfl
@[go_sem] theorem elemT_28:c9 28=some 29:=rfl
@[go_sem] theorem elemT_29:c9 29=some 2:=rfl
@[go_sem] theorem elemT_52:c9 52=some 59:=rfl
@[go_sem] theorem elemT_59:c9 59=some 50:=rfl
@[go_sem] theorem MX:c9 146=some 3:=rfl
@[go_sem] theorem MW:c9 192=some 52:=rfl
@[go_sem] theorem MV:c9 216=some 59:=rfl
@[go_sem] theorem elemS_2:bP 2=1:=rfl
@[go_sem] theorem elemS_3:bP 3=1:=rfl
@[go_sem] theorem elemS_29:bP 29=1:=rfl
@[go_sem] theorem elemS_59:bP 59=1:=rfl
@[go_sem] theorem elemS_50:bP 50=2:=rfl
@[go_sem] theorem elemS_52:bP 52=1:=rfl
@[go_sem] theorem make_28{k k':IntKind}{n n':Int}{S:St}{K:AV->St->Prop}:jU 28 (.int k n) (.int k' n') S K=((AV.int k n=.int k' n')/\(0<=n/\n<=1099511627776)/\aH S (fun b=>K (.sl 1 b 0 n.toNat) (S.upd b ⟨29,1,n.toNat,fun _=>.nil⟩))):=by
 simp only[jU,c9,fD,bP,true_and];rfl
@[go_sem] theorem make_29{k k':IntKind}{n n':Int}{S:St}{K:AV->St->Prop}:jU 29 (.int k n) (.int k' n') S K=((AV.int k n=.int k' n')/\(0<=n/\n<=1099511627776)/\aH S (fun b=>K (.sl 1 b 0 n.toNat) (S.upd b ⟨2,1,n.toNat,fun _=>.int .i64 0⟩))):=by
 simp only[jU,c9,fD,bP,true_and];rfl
@[go_sem] theorem make_52{k k':IntKind}{n n':Int}{S:St}{K:AV->St->Prop}:jU 52 (.int k n) (.int k' n') S K=((AV.int k n=.int k' n')/\(0<=n/\n<=1099511627776)/\aH S (fun b=>K (.sl 1 b 0 n.toNat) (S.upd b ⟨59,1,n.toNat,fun _=>.nil⟩))):=by
 simp only[jU,c9,fD,bP,true_and];rfl
@[go_sem] theorem make_59{k k':IntKind}{n n':Int}{S:St}{K:AV->St->Prop}:jU 59 (.int k n) (.int k' n') S K=((AV.int k n=.int k' n')/\(0<=n/\n<=1099511627776)/\aH S (fun b=>K (.sl 2 b 0 n.toNat) (S.upd b ⟨50,2,n.toNat,fun _=>.big 0⟩))):=by
 simp only[jU,c9,fD,bP,true_and];rfl
@[go_sem] theorem make_146{k k':IntKind}{n n':Int}{S:St}{K:AV->St->Prop}:jU 146 (.int k n) (.int k' n') S K=((AV.int k n=.int k' n')/\(0<=n/\n<=1099511627776)/\aH S (fun b=>K (.sl 1 b 0 n.toNat) (S.upd b ⟨3,1,n.toNat,fun _=>.int .i64 0⟩))):=by
 simp only[jU,c9,fD,bP,true_and];rfl
@[go_sem] theorem make_216{k k':IntKind}{n n':Int}{S:St}{K:AV->St->Prop}:jU 216 (.int k n) (.int k' n') S K=((AV.int k n=.int k' n')/\(0<=n/\n<=1099511627776)/\aH S (fun b=>K (.sl 1 b 0 n.toNat) (S.upd b ⟨59,1,n.toNat,fun _=>.nil⟩))):=by
 simp only[jU,c9,fD,bP,true_and];rfl
@[go_sem] theorem KZ:fC 24 0=some (1,0):=rfl
@[go_sem] theorem KY:fC 24 1=some (1,1):=rfl
@[go_sem] theorem KX:fC 24 2=some (1,2):=rfl
@[go_sem] theorem KW:fC 24 3=some (1,3):=rfl
@[go_sem] theorem KV:fC 27 0=some (1,0):=rfl
@[go_sem] theorem KU:fC 27 1=some (1,4):=rfl
@[go_sem] theorem KT:fC 27 2=some (1,5):=rfl
@[go_sem] theorem JX:fC 107 0=some (1,0):=rfl
@[go_sem] theorem JW:fC 107 1=some (1,1):=rfl
@[go_sem] theorem JV:fC 160 0=some (1,0):=rfl
@[go_sem] theorem JU:fC 160 1=some (1,1):=rfl
@[go_sem] theorem JT:fC 160 2=some (1,2):=rfl
@[go_sem] theorem JS:fC 160 3=some (1,3):=rfl
@[go_sem] theorem JR:fC 167 0=some (2,0):=rfl
@[go_sem] theorem JQ:fC 167 1=some (2,1):=rfl
@[go_sem] theorem JP:fC 183 0=some (1,0):=rfl
@[go_sem] theorem JO:fC 183 1=some (1,1):=rfl
@[go_sem] theorem JN:fC 197 0=some (2,0):=rfl
@[go_sem] theorem JM:fC 197 1=some (2,1):=rfl
@[go_sem] theorem JL:fC 197 2=some (2,2):=rfl
@[go_sem] theorem JK:fC 197 3=some (2,3):=rfl
@[go_sem] theorem JJ:fC 197 4=some (2,5):=rfl
@[go_sem] theorem JI:fC 218 0=some (1,0):=rfl
@[go_sem] theorem JH:fC 218 1=some (1,1):=rfl
@[go_sem] theorem kindT_2:rc 2=some .i64:=rfl
@[go_sem] theorem kindT_3:rc 3=some .i64:=rfl
@[go_sem] theorem kindT_5:rc 5=some .u8:=rfl
@[go_sem] theorem kindT_34:rc 34=some .i64:=rfl
@[go_sem] theorem kindT_97:rc 97=some .u64:=rfl
@[go_sem] theorem srcT_2:xm 2=true:=rfl
@[go_sem] theorem srcT_3:xm 3=true:=rfl
@[go_sem] theorem srcT_5:xm 5=true:=rfl
@[go_sem] theorem srcT_25:xm 25=true:=rfl
@[go_sem] theorem srcT_41:xm 41=true:=rfl
@[go_sem] theorem srcT_97:xm 97=true:=rfl
@[go_sem] theorem box_2{x:AV}{S:St}{K:AV->St->Prop}:jg 2 x S K=(dI 1 x/\aH S (fun b=>K (.ptr 1 b 0) (S.upd b ⟨2,1,1,fun _=>x⟩))):=rfl
@[go_sem] theorem box_3{x:AV}{S:St}{K:AV->St->Prop}:jg 3 x S K=(dI 1 x/\aH S (fun b=>K (.ptr 1 b 0) (S.upd b ⟨3,1,1,fun _=>x⟩))):=rfl
@[go_sem] theorem box_4{x:AV}{S:St}{K:AV->St->Prop}:jg 4 x S K=(dI 1 x/\aH S (fun b=>K (.ptr 1 b 0) (S.upd b ⟨4,1,1,fun _=>x⟩))):=rfl
@[go_sem] theorem box_5{x:AV}{S:St}{K:AV->St->Prop}:jg 5 x S K=(dI 1 x/\aH S (fun b=>K (.ptr 1 b 0) (S.upd b ⟨5,1,1,fun _=>x⟩))):=rfl
@[go_sem] theorem box_22{x:AV}{S:St}{K:AV->St->Prop}:jg 22 x S K=(dI 1 x/\aH S (fun b=>K (.ptr 1 b 0) (S.upd b ⟨22,1,1,fun _=>x⟩))):=rfl
@[go_sem] theorem box_25{x:AV}{S:St}{K:AV->St->Prop}:jg 25 x S K=(dI 1 x/\aH S (fun b=>K (.ptr 1 b 0) (S.upd b ⟨25,1,1,fun _=>x⟩))):=rfl
@[go_sem] theorem box_28{x:AV}{S:St}{K:AV->St->Prop}:jg 28 x S K=(dI 1 x/\aH S (fun b=>K (.ptr 1 b 0) (S.upd b ⟨28,1,1,fun _=>x⟩))):=rfl
@[go_sem] theorem box_29{x:AV}{S:St}{K:AV->St->Prop}:jg 29 x S K=(dI 1 x/\aH S (fun b=>K (.ptr 1 b 0) (S.upd b ⟨29,1,1,fun _=>x⟩))):=rfl
@[go_sem] theorem box_34{x:AV}{S:St}{K:AV->St->Prop}:jg 34 x S K=(dI 1 x/\aH S (fun b=>K (.ptr 1 b 0) (S.upd b ⟨34,1,1,fun _=>x⟩))):=rfl
@[go_sem] theorem box_41{x:AV}{S:St}{K:AV->St->Prop}:jg 41 x S K=(dI 1 x/\aH S (fun b=>K (.ptr 1 b 0) (S.upd b ⟨41,1,1,fun _=>x⟩))):=rfl
@[go_sem] theorem box_52{x:AV}{S:St}{K:AV->St->Prop}:jg 52 x S K=(dI 1 x/\aH S (fun b=>K (.ptr 1 b 0) (S.upd b ⟨52,1,1,fun _=>x⟩))):=rfl
@[go_sem] theorem box_59{x:AV}{S:St}{K:AV->St->Prop}:jg 59 x S K=(dI 1 x/\aH S (fun b=>K (.ptr 1 b 0) (S.upd b ⟨59,1,1,fun _=>x⟩))):=rfl
@[go_sem] theorem box_97{x:AV}{S:St}{K:AV->St->Prop}:jg 97 x S K=(dI 1 x/\aH S (fun b=>K (.ptr 1 b 0) (S.upd b ⟨97,1,1,fun _=>x⟩))):=rfl
@[go_sem] theorem box_146{x:AV}{S:St}{K:AV->St->Prop}:jg 146 x S K=(dI 1 x/\aH S (fun b=>K (.ptr 1 b 0) (S.upd b ⟨146,1,1,fun _=>x⟩))):=rfl
@[go_sem] theorem box_158{x:AV}{S:St}{K:AV->St->Prop}:jg 158 x S K=(dI 1 x/\aH S (fun b=>K (.ptr 1 b 0) (S.upd b ⟨158,1,1,fun _=>x⟩))):=rfl
@[go_sem] theorem box_192{x:AV}{S:St}{K:AV->St->Prop}:jg 192 x S K=(dI 1 x/\aH S (fun b=>K (.ptr 1 b 0) (S.upd b ⟨192,1,1,fun _=>x⟩))):=rfl
@[go_sem] theorem box_216{x:AV}{S:St}{K:AV->St->Prop}:jg 216 x S K=(dI 1 x/\aH S (fun b=>K (.ptr 1 b 0) (S.upd b ⟨216,1,1,fun _=>x⟩))):=rfl
@[go_sem] theorem box_50{x:AV}{S:St}{K:AV->St->Prop}:jg 50 x S K=(dI 2 x/\aH S (fun b=>K (.ptr 2 b 0) (S.upd b ⟨50,2,1,fun _=>x⟩))):=rfl
@[go_sem] theorem box_167{l:List AV}{S:St}{K:AV->St->Prop}:jg 167 (.agg l) S K=(l.length=2/\(∀z∈l,dI 2 z)/\aH S (fun b=>K (.ptr 2 b 0) (S.upd b ⟨167,2,2,fun j=>l.getD j .any⟩))):=rfl
@[go_sem] theorem box_195{l:List AV}{S:St}{K:AV->St->Prop}:jg 195 (.agg l) S K=(l.length=2/\(∀z∈l,dI 2 z)/\aH S (fun b=>K (.ptr 2 b 0) (S.upd b ⟨195,2,2,fun j=>l.getD j .any⟩))):=rfl
@[go_sem] theorem box_197{l:List AV}{S:St}{K:AV->St->Prop}:jg 197 (.agg l) S K=(l.length=7/\(∀z∈l,dI 2 z)/\aH S (fun b=>K (.ptr 2 b 0) (S.upd b ⟨197,2,7,fun j=>l.getD j .any⟩))):=rfl
@[go_sem] theorem box_24{l:List AV}{S:St}{K:AV->St->Prop}:jg 24 (.agg l) S K=(l.length=4/\(∀z∈l,dI 1 z)/\aH S (fun b=>K (.ptr 1 b 0) (S.upd b ⟨24,1,4,fun j=>l.getD j .any⟩))):=rfl
@[go_sem] theorem box_27{l:List AV}{S:St}{K:AV->St->Prop}:jg 27 (.agg l) S K=(l.length=6/\(∀z∈l,dI 1 z)/\aH S (fun b=>K (.ptr 1 b 0) (S.upd b ⟨27,1,6,fun j=>l.getD j .any⟩))):=rfl
@[go_sem] theorem box_107{l:List AV}{S:St}{K:AV->St->Prop}:jg 107 (.agg l) S K=(l.length=2/\(∀z∈l,dI 1 z)/\aH S (fun b=>K (.ptr 1 b 0) (S.upd b ⟨107,1,2,fun j=>l.getD j .any⟩))):=rfl
@[go_sem] theorem box_160{l:List AV}{S:St}{K:AV->St->Prop}:jg 160 (.agg l) S K=(l.length=4/\(∀z∈l,dI 1 z)/\aH S (fun b=>K (.ptr 1 b 0) (S.upd b ⟨160,1,4,fun j=>l.getD j .any⟩))):=rfl
@[go_sem] theorem box_183{l:List AV}{S:St}{K:AV->St->Prop}:jg 183 (.agg l) S K=(l.length=2/\(∀z∈l,dI 1 z)/\aH S (fun b=>K (.ptr 1 b 0) (S.upd b ⟨183,1,2,fun j=>l.getD j .any⟩))):=rfl
@[go_sem] theorem box_218{l:List AV}{S:St}{K:AV->St->Prop}:jg 218 (.agg l) S K=(l.length=2/\(∀z∈l,dI 1 z)/\aH S (fun b=>K (.ptr 1 b 0) (S.upd b ⟨218,1,2,fun j=>l.getD j .any⟩))):=rfl
@[go_sem] theorem bs_59{x:AV}{S:St}{K:AV->St->Prop}:cW 59 1 [(0,x)] S K=(dI 2 x/\aH S (fun b=>K (.sl 2 b 0 1) (S.upd b ⟨50,2,1,fun j=>[x].getD j .any⟩))):=by
 simp only[cW,c9,bP];simp[dY,fD,aH]
@[go_sem] theorem hbs_59{x z:AV}:dZ 59 1 [(0,x)] z=(dI 2 x/\z=.lst 2 1 (fun j=>[x].getD j .any)):=by
 simp only[dZ,c9,bP];simp[dY,fD]
@[go_sem] theorem bs_52{x:AV}{S:St}{K:AV->St->Prop}:cW 52 1 [(0,x)] S K=(dI 1 x/\aH S (fun b=>K (.sl 1 b 0 1) (S.upd b ⟨59,1,1,fun j=>[x].getD j .any⟩))):=by
 simp only[cW,c9,bP];simp[dY,fD,aH]
@[go_sem] theorem hbs_52{x z:AV}:dZ 52 1 [(0,x)] z=(dI 1 x/\z=.lst 1 1 (fun j=>[x].getD j .any)):=by
 simp only[dZ,c9,bP];simp[dY,fD]
@[go_sem] theorem bs_29{x:AV}{S:St}{K:AV->St->Prop}:cW 29 1 [(0,x)] S K=(dI 1 x/\aH S (fun b=>K (.sl 1 b 0 1) (S.upd b ⟨2,1,1,fun j=>[x].getD j .any⟩))):=by
 simp only[cW,c9,bP];simp[dY,fD,aH]
@[go_sem] theorem hbs_29{x z:AV}:dZ 29 1 [(0,x)] z=(dI 1 x/\z=.lst 1 1 (fun j=>[x].getD j .any)):=by
 simp only[dZ,c9,bP];simp[dY,fD]
@[go_sem] theorem bs_28{x:AV}{S:St}{K:AV->St->Prop}:cW 28 1 [(0,x)] S K=(dI 1 x/\aH S (fun b=>K (.sl 1 b 0 1) (S.upd b ⟨29,1,1,fun j=>[x].getD j .any⟩))):=by
 simp only[cW,c9,bP];simp[dY,fD,aH]
@[go_sem] theorem hbs_28{x z:AV}:dZ 28 1 [(0,x)] z=(dI 1 x/\z=.lst 1 1 (fun j=>[x].getD j .any)):=by
 simp only[dZ,c9,bP];simp[dY,fD]
@[go_sem] theorem bs_146{x:AV}{S:St}{K:AV->St->Prop}:cW 146 1 [(0,x)] S K=(dI 1 x/\aH S (fun b=>K (.sl 1 b 0 1) (S.upd b ⟨3,1,1,fun j=>[x].getD j .any⟩))):=by
 simp only[cW,c9,bP];simp[dY,fD,aH]
@[go_sem] theorem hbs_146{x z:AV}:dZ 146 1 [(0,x)] z=(dI 1 x/\z=.lst 1 1 (fun j=>[x].getD j .any)):=by
 simp only[dZ,c9,bP];simp[dY,fD]
@[go_sem] theorem bs_216{x:AV}{S:St}{K:AV->St->Prop}:cW 216 1 [(0,x)] S K=(dI 1 x/\aH S (fun b=>K (.sl 1 b 0 1) (S.upd b ⟨59,1,1,fun j=>[x].getD j .any⟩))):=by
 simp only[cW,c9,bP];simp[dY,fD,aH]
@[go_sem] theorem hbs_216{x z:AV}:dZ 216 1 [(0,x)] z=(dI 1 x/\z=.lst 1 1 (fun j=>[x].getD j .any)):=by
 simp only[dZ,c9,bP];simp[dY,fD]
attribute [go_sem] ev KN nK oh oi oo Am Ce K5 rK pr dI Dz tS oU
attribute [go_sem] ne_eq not_false_eq_true true_and and_true if_true if_false Int.toNat_natCast Int.toNat_zero aF cq List.map_nil lw List.append_nil List.cons_append forall_const
 Int.natCast_nonneg List.toList_toArray List.length_cons List.length_nil
attribute [go_sem] eq_self true_implies false_implies bne_self_eq_false Bool.true_eq_false cN bT Option.bind_some exists_eq_left' exists_eq_left exists_and_left and_assoc or_false false_or false_and Bt List.take_succ_cons List.take_zero List.drop_succ_cons List.drop_zero List.isEmpty_nil List.isEmpty_cons aR oG xv Bool.and_self List.filterMap_cons List.filterMap_nil
 yY pD Bool.and_false Bool.and_true Nat.add_zero ah exists_const
section
variable {ops:Array Oper} {l:List Oper} {O:Tm} {S:St} {K:Tm->St->Prop} {o:Oper} {pend:List (Nat×dH)} {H:Tm->List (Nat×dH)->Prop} {z:AV} {d:Nat} {X:dH} {r:List (Nat×dH)}
theorem bM(q:Nat)(hok:vZ ops q=true)(h:Cs (ops.toList.take q) O S [] (fun O' pend=>if pend.isEmpty then AK ops (ops.toList.drop q) O' S K else si pend (rm (lf (ops.toList.take q)) O') S (fun O S=>AK ops (ops.toList.drop q) O S K))):Ga ops O S K:=by
 rw[qM];rw[oD,tc,sh]at h;exact bQ ⟨q,hok,h⟩
theorem io(q:Nat)(hok:EC ops q=true)(h:Cs (ops.toList.take q) O S [] (fun O' pend=>pend.isEmpty=true/\AK ops (ops.toList.drop q) O' S K)):Ga ops O S K:=by
 rw[qM];rw[oD,tc]at h;exact bH (bQ ⟨q,hok,h⟩)
theorem eL(q:Nat)(js:List (List Nat))(hok:yH ops q js=true)(h:Cs (ops.toList.take q) O S [] (fun O' pend=>pend.isEmpty=true/\Ll ops.toList js (ops.toList.drop q) O' S K)):Ga ops O S K:=by
 rw[qM];rw[oD,AJ]at h;exact bH (bH (bQ ⟨q,js,hok,h⟩))
theorem nJ(q:Nat)(js:List (List Nat))(hok:yH ops q js=true)(h:Cs (ops.toList.take q) O S [] (fun O' pend=>si pend (rm (lf (ops.toList.take q)) O') S (fun O S=>kO ops.toList O S (vP js)/\Ll ops.toList js (ops.toList.drop q) O S K))):Ga ops O S K:=by
 rw[qM];rw[oD,AJ,sh]at h;exact bH (bH (bH (bQ ⟨q,js,hok,h⟩)))
def xe(ops:Array Oper)(o:Oper)(O:Tm)(S:St)(K:Tm->St->Prop):Prop:=match o.guard with
 | ac=>IB o O S (fun z S'=>K (O.put o.dst z) S')
 | some (j,want)=>(match AM ops O j with
  | .bool b=>(b=want->IB o O S (fun z S'=>K (O.put o.dst z) S'))/\(b=!want->K (O.put o.dst .any) S)
  | _=>False)
def stI(ops:Array Oper)(P:(Nat->Bool)->Tm->St->Prop):List Oper->Nat->Prop
 | [],_=>True
 | o::r,i=>(∀L O S,P L O S->L i=false->(aft o).all L=true->xe ops o O S (P (fun k=>if k=i then true else L k)))/\stI ops P r (i+1)
theorem D3{ops:Array Oper}{P:(Nat->Bool)->Tm->St->Prop}:∀(l:List Oper) (i j:Nat) (o:Oper),stI ops P l i->l[j]? = some o->∀L O S,P L O S->L (i+j)=false->(∀k∈aft o,L k=true)->xJ ops o O S (P (fun k=>if k=i+j then true else L k))
 | [],i,j,o,_,h=>by simp at h
 | p::r,i,0,o,h,ho=>by
  simp only[cN,Option.some.injEq]at ho;subst ho;intro L O S h1 h2 h3;have:=h.1 L O S h1 h2 (aB.2 h3);unfold xe at this;rw[td]at this;exact this
 | p::r,i,j+1,o,h,ho=>by
  rw[bT]at ho;have:=D3 r (i+1) j o h.2 ho;rw[(om:i+1+j=i+(j+1))]at this
  exact this
theorem yL(P:(Nat->Bool)->Tm->St->Prop)(hok:yO ops=true)(h0:P (fun _=>false) O S)(hs:stI ops P ops.toList 0)(he:∀L O S,P L O S->(∀i,i<ops.toList.length->L i=true)->K O S):Ga ops O S K:=by
 rw[qM];refine bH (bH (bH (bH ⟨P,hok,h0,fun i o ho=>?_,fun L O S h1 h2=>he L O S h1 (fun i hi=>h2 i (by simpa using hi))⟩)))
 have:=D3 ops.toList 0 i o hs (by simpa using ho)
 simp only[aF]at this;exact this
@[go_sem ↓] theorem awT_nil{os:List Oper}{js:List (List Nat)}:Ll os js [] O S K=K O S:=by rw[AJ,Ge]
@[go_sem ↓] theorem awT_go{os:List Oper}{js:List (List Nat)}:Ll os js (o::l) O S K=IB o O S (fun z S'=>kO os (O.put o.dst z) S' (vP js)/\Ll os (G9 js) l (O.put o.dst z) S' K):=by rw[AJ,td,Ge]
@[go_sem] theorem jsHd_c{a:List Nat}{l:List (List Nat)}:vP (a::l)=a:=rfl
@[go_sem] theorem jsNx_1{a:List Nat}:G9 [a]=[a]:=rfl
@[go_sem] theorem jsNx_2{a b:List Nat}{l:List (List Nat)}:G9 (a::b::l)=b::l:=rfl
@[go_sem] theorem LS{os:List Oper}:kO os O S []=True:=by rw[kO]
@[go_sem ↓] theorem KO{os:List Oper}{j:Nat}{js:List Nat}:kO os O S (j::js)=((match os[j]? with
  | some o=>(match o.dst with
   | some d=>xa o O S (O d)
   | ac=>False)
  | ac=>False)/\kO os O S js):=by rw[kO]<;>rfl
@[go_sem ↓] theorem awH_nil:Cs [] O S pend H=H O pend:=by rw[oD,Ah]
@[go_sem ↓] theorem awH_go:Cs (o::l) O S pend H=(match o.op,o.dst with
  | .alloc t,some d=>(match kT t with
   | some X=>Cs l (O.put (some d) .any) S (pend++[(d,X)]) H
   | ac=>False)
  | _,_=>∃z,xa o O S z/\Cs l (O.put o.dst z) S pend H):=by rw[oD,Ah]<;>rfl
@[go_sem ↓] theorem HOK_go:xa o O S z=((Bt o.op=true/\IB o O S (fun z' S'=>z'=z/\S'=S))∨(match o.op with
 | .call c=>(match c.callee with
  | .value f=>Hg (ev O f) (c.args.toList.map (ev O)) S z
  | _=>False)
 | .buildSlice t n ps=>dZ t n (ps.toList.map fun p=>(p.1,ev O p.2)) z
 | _=>False)):=by rw[xa,td]<;>rfl
@[go_sem ↓] theorem M4:si [] O S K=K O S:=by rw[sh,mh]
@[go_sem ↓] theorem Mk:si ((d,X)::r) O S K=aH S (fun b=>si r (O.put (some d) (.ptr X.es b 0)) (S.upd b X) K):=by rw[sh,mh]<;>rfl
@[go_sem] theorem M3:kT 50=some ⟨50,2,1,fun _=>.big 0⟩:=rfl
@[go_sem] theorem M2:kT 52=some ⟨52,1,1,fun _=>.nil⟩:=rfl
@[go_sem] theorem Mj:kT 167=some ⟨167,2,2,fun _=>.big 0⟩:=rfl
@[go_sem] theorem MZ{ds:List Nat}{t:Nat}:rm ds O t=if ds.contains t&&!oG (O t)then .any else O t:=rfl
end
def uh(O:Tm):List Oper->Nat->AV
 | [],_=>.any
 | o::_,0=>(match o.dst with
  | some d=>O d
  | ac=>.any)
 | _::l,j+1=>uh O l j
theorem DO(O:Tm):∀(l:List Oper) (j:Nat),AM l.toArray O j=uh O l j
 | [],j=>by simp[AM,uh]
 | o::l,0=>by simp[AM,uh];rfl
 | o::l,j+1=>by
  have:=DO O l j;simp only[AM,uh,List.getElem?_toArray,bT]at this ⊢;exact this
@[go_sem] theorem yld_go{l:List Oper}{O:Tm}{j:Nat}:AM l.toArray O j=uh O l j:=DO O l j
@[go_sem] theorem MC{o:Oper}{l:List Oper}{O:Tm}:uh O (o::l) 0=(match o.dst with
  | some d=>O d
  | ac=>.any):=by rw[uh]
@[go_sem] theorem MD{o:Oper}{l:List Oper}{O:Tm}{j:Nat}:uh O (o::l) (j+1)=uh O l j:=by rw[uh]
def PF(f:Nat)(args:List AV)(z:AV):Prop :=
 ∀(w:World) (vs:List Value),bq w px args vs->Calls aj f vs.toArray w (fun e w'=>∃v,e=.returned v/\bs w' (fun b=>b<w.heap.size) z v/\cw px px w w')
def VA(S:St)(x x':AV):Prop:=∀(w:World) (v:Value),dN w S->bs w S.dom x v->bs w px x' v
def VR(S:St)(x x':AV):Prop:=∀(w:World) (v:Value),dN w S->bs w S.dom x v->bs w (fun b=>¬S.dom b) x' v
def dO(S:St):List AV->List AV->Prop
 | [],[]=>True
 | x::l,y::r=>VA S x y/\dO S l r
 | [],_::_=>False
 | _::_,[]=>False
theorem VA.refl(S:St)(x:AV):VA S x x:=fun _ _ _ h=>bs.turn (fun _ _ hk=>hk.elim) _ _ h
theorem VR.va{S:St}{x y:AV}(h:VR S x y):VA S x y:=fun w v hs hr=>bs.turn (fun _ _ hk=>hk.elim) _ _ (h w v hs hr)
theorem VR.mf{S:St}{x:AV}(h:oG x=true):VR S x x:=fun _ _ _ hr=>oa h hr
theorem ue{S:St}{w:World}(hs:dN w S):∀(l r:List AV) (vs:List Value),dO S l r->bq w S.dom l vs->bq w px r vs
 | [],[],[],_,_=>by simp[bq]
 | x::l,y::r,v::vs,h,hr=>by simp only[bq]at hr ⊢;exact⟨h.1 w v hs hr.1,ue hs l r vs h.2 hr.2⟩
 | [],[],_::_,_,hr=>by simp[bq]at hr
 | _::_,_,[],_,hr=>by simp[bq]at hr
 | [],_::_,_,h,_=>h.elim
 | _::_,[],_,h,_=>h.elim
theorem cH(S:St):∀l,dO S l l
 | []=>trivial
 | x::l=>⟨VA.refl S x,cH S l⟩
theorem PF.pureS{f:Nat}{args args':List AV}{z:AV}{S:St}(h:PF f args' z)(hv:dO S args args'):rU f args S z:=by
 intro w vs hs hr;refine(h w vs (ue hs _ _ _ hv hr)).mono ?_;rintro e w' ⟨v,rfl,h1,h2⟩;exact⟨v,rfl,bs.turn (fun k _ hk=>by
  simp only[St.dom]at hk
  cases e:S k with
  | none=>exact absurd e hk
  | some X=>obtain⟨cs,h3,_⟩:=hs k X e;exact dW h3) _ _ h1,h2⟩
theorem PF.pure'{f:Nat}{args:List AV}{z:AV}{S:St}(h:PF f args z):rU f args S z:=h.pureS (cH S args)
theorem PF.spec{f:Nat}{args args':List AV}{z:AV}{S:St}(h:PF f args' z)(hv:dO S args args'){post:AV->St->Prop}(hp:post z S):cS f args S post:=(h.pureS hv).spec hp
theorem PF.call{f:Nat}{args:List AV}{z:AV}{S:St}(h:PF f args z){post:AV->St->Prop}(hp:post z S):cS f args S post:=h.pure'.spec hp
theorem wK.pf{f:Nat}{args:List AV}{z:AV}(hz:oG z=true)(h:wK f args z):PF f args z:=by
 intro w vs hr;refine(h St.none w vs (fun b x hx=>by simp[St.none]at hx) (bq.turn (fun _ _ hk=>absurd rfl hk) _ _ hr)).mono ?_
 rintro e w' ⟨v,rfl,h1,h2⟩;exact⟨v,rfl,oa hz h1,h2⟩
theorem PF.of_spec{f:Nat}{args:List AV}{z:AV}(h:cS f args St.none (fun r S'=>VR S' r z)):PF f args z:=by
 intro w vs hr;refine(h w vs (fun b x hx=>by simp[St.none]at hx) (bq.turn (fun _ _ hk=>absurd rfl hk) _ _ hr)).mono ?_
 rintro e w' ⟨v,r,S',rfl,h1,h2,h3,h4⟩;refine⟨v,rfl,bs.turn (fun k _ hk hd=>?_) _ _ (h1 w' v h3 h2),h4.os,h4.tape,h4.output,h4.size,fun k hk _=>h4.keep k hk (fun x=>x rfl),h4.shape,fun _ _ h=>h⟩;exact h4.own k hk hd rfl
def bE(S:St)(b ty es n:Nat)(g:Nat->AV):Prop:=∃g',S b=some ⟨ty,es,n,g'⟩/\∀i,i<n->g' i=g i
theorem bE.of{S:St}{b ty es n:Nat}{g:Nat->AV}(h:S b=some ⟨ty,es,n,g⟩):bE S b ty es n g:=⟨g,h,fun _ _=>rfl⟩
theorem bE.ne{S:St}{b c ty es n ty' es' n':Nat}{g g':Nat->AV}(h:bE S b ty es n g)(h':bE S c ty' es' n' g')(ht:ty≠ty'):b≠c:=by
 rintro rfl;obtain⟨x,h1,_⟩:=h;obtain⟨y,h2,_⟩:=h';rw[h1]at h2;cases h2;exact ht rfl
theorem bE.fresh{S:St}{b c ty es n:Nat}{g:Nat->AV}(h:bE S b ty es n g)(hc:S c=ac):b≠c:=by
 rintro rfl;obtain⟨x,h1,_⟩:=h;rw[h1]at hc;cases hc
theorem bE.upd{S:St}{b c ty es n:Nat}{g:Nat->AV}(h:bE S b ty es n g)(hc:b≠c)(X:dH):bE (S.upd c X) b ty es n g:=by
 obtain⟨x,h1,h2⟩:=h;exact⟨x,by rw[aP hc];exact h1,h2⟩
theorem bE.here{S:St}{b ty es n:Nat}{g g':Nat->AV}(h:∀i,i<n->g' i=g i):bE (S.upd b ⟨ty,es,n,g'⟩) b ty es n g:=⟨g',bZ,h⟩
theorem bE.congr{S:St}{b ty es n:Nat}{g g':Nat->AV}(h:bE S b ty es n g)(hg:∀i,i<n->g i=g' i):bE S b ty es n g':=by
 obtain⟨x,h1,h2⟩:=h;exact⟨x,h1,fun i hi=>(h2 i hi).trans (hg i hi)⟩
theorem VR.sl{S:St}{b ty es n off len:Nat}{g h:Nat->AV}(hh:bE S b ty es n g)(hn:off+len<=n)(hv:∀j,j<len->VR S (g (off+j)) (h j)):VR S (.sl es b off len) (.lst es len h):=by
 intro w v hs hr;obtain⟨g',hX,hg⟩:=hh;obtain⟨cs,h1,h2,h3,h4⟩:=hs b _ hX;simp only[bs]at hr ⊢;obtain⟨cap,cs',ty',fr',rfl,hc,_,_⟩:=hr;refine⟨_,cap,rfl,hc,fun h0=>⟨b,es*off,rfl,dW h1,fun hb=>hb (by simp[St.dom,hX]),fun j hj=>?_⟩⟩
 obtain⟨u,u1,u2⟩:=h3 (off+j) (by simp only;omega)
 refine⟨u,⟨cs,ty,(0,0),h1,by rw[<-Nat.mul_add];exact u1⟩,hv j hj w u hs ?_⟩
 rw[<-hg (off+j) om];exact u2
theorem VR.nil{S:St}{es:Nat}{h:Nat->AV}:VR S .nil (.lst es 0 h):=by
 intro w v hs hr;simp only[bs]at hr ⊢;subst hr;exact⟨_,0,rfl,ah _,fun h0=>absurd h0 om⟩
def bn(n:Nat)(r:Nat->Int):AV:=.lst 2 n (fun j=>.big (r j))
def aZ(n m:Nat)(A:Nat->Nat->Int):AV:=.lst 1 n (fun i=>bn m (A i))
def bO(n:Nat)(r:Nat->Int):AV:=.lst 1 n (fun j=>.int .i64 (r j))
def aN(n m:Nat)(A:Nat->Nat->Int):AV:=.lst 1 n (fun i=>bO m (A i))
def gJ(S:St)(b n:Nat)(r:Nat->Int):Prop:=bE S b 50 2 n (fun j=>.big (r j))
def lG(S:St)(b n:Nat)(r:Nat->Int):Prop:=bE S b 2 1 n (fun j=>.int .i64 (r j))
structure cZ(S:St)(b:Nat)(g:Nat->Nat)(n m:Nat)(A:Nat->Nat->Int):Prop where
 outer:bE S b 59 1 n (fun i=>.sl 2 (g i) 0 m)
 row:∀i,i<n->gJ S (g i) m (A i)
 inj:∀i j,i<n->j<n->g i=g j->i=j
structure dR(S:St)(b:Nat)(g:Nat->Nat)(n m:Nat)(A:Nat->Nat->Int):Prop where
 outer:bE S b 29 1 n (fun i=>.sl 1 (g i) 0 m)
 row:∀i,i<n->lG S (g i) m (A i)
 inj:∀i j,i<n->j<n->g i=g j->i=j
theorem gJ.vr{S:St}{b n:Nat}{r:Nat->Int}(h:gJ S b n r):VR S (.sl 2 b 0 n) (bn n r):=VR.sl h om (fun j _=>by rw[aF];exact VR.mf rfl)
theorem lG.vr{S:St}{b n:Nat}{r:Nat->Int}(h:lG S b n r):VR S (.sl 1 b 0 n) (bO n r):=VR.sl h om (fun j _=>by rw[aF];exact VR.mf rfl)
theorem cZ.vr{S:St}{b:Nat}{g:Nat->Nat}{n m:Nat}{A:Nat->Nat->Int}(h:cZ S b g n m A):VR S (.sl 1 b 0 n) (aZ n m A):=VR.sl h.outer om (fun j hj=>by rw[aF];exact(h.row j hj).vr)
theorem dR.vr{S:St}{b:Nat}{g:Nat->Nat}{n m:Nat}{A:Nat->Nat->Int}(h:dR S b g n m A):VR S (.sl 1 b 0 n) (aN n m A):=VR.sl h.outer om (fun j hj=>by rw[aF];exact(h.row j hj).vr)
theorem i64_in{a:Int}(h1:-9223372036854775808<=a)(h2:a<=9223372036854775807):IntKind.i64.wrap a=a:=IntWalk.i64_in a ⟨h1,h2⟩
theorem dK{a:Int}{n:Nat}(h:a=n)(hn:n<=4611686018427387904):IntKind.i64.wrap a=(n:Int):=by rw[h];exact i64_in om om
end Go.Proofs.YtdobfmlmenaajaaGreatDoor
