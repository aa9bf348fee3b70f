/-
  Lemmas for NeighbourMembers.
-/
import Derived.Test.YtdobfmlmenaajaaGreatDoorN10
namespace Go.Proofs.YtdobfmlmenaajaaGreatDoor
open Go.RowKit
open _root_.Array renaming getElem?_eq_getElem→aB,getD_eq_getD_getElem?→aF,getElem?_eq_some_iff→bM,getElem?_setIfInBounds_ne→bZ,replicate→im,getElem?_setIfInBounds→nR
open Below renaming heap_alloc→mA
open _root_.Bool renaming and_eq_true→au,false_eq_true→aN,or_eq_true→cW,not_eq_true'→eO
open _root_.List renaming all_eq_true→az,range→cf,map_cons→cj,mem_of_getElem?→cq,getElem?_eq_some_iff→cG,mem_cons_of_mem→dk,mem_cons_self→dU,length_take→dX,getElem?_take→er,mem_map→eY,drop_of_length_le→fy,mem_filterMap→gT,drop_eq_getElem_cons→ij,nil_append→kN,countP_le_length→mc
open _root_.Nat renaming le_refl→ah,lt_or_ge→aE,le_trans→bW,lt_trichotomy→dJ
open _root_.Ne renaming symm→ak
open _root_.Option renaming none→ac
open _root_.Or renaming inr→bD,inl→bH
set_option maxHeartbeats 6400000
set_option maxRecDepth 4096
set_option linter.all false
mutual
theorem a8.turn{M M':Nat->Prop}{w:World}(hm:∀k,k<w.heap.size->M' k->M k):∀(a:AV) (v:Value),a8 w M a v->a8 w M' a v
 | .int k n,v,h=>by simpa [a8]using h
 | .bool b,v,h=>by simpa [a8]using h
 | .big z,v,h=>by simpa [a8]using h
 | .nil,v,h=>by simpa [a8]using h
 | .sl es b off len,v,h=>by simpa [a8]using h
 | .ptr es b i,v,h=>by simpa [a8]using h
 | .lst es n g,v,h=>by
  simp only[a8]at h ⊢;obtain⟨A,c,h1,h2,h3⟩:=h;refine⟨A,c,h1,h2,fun hn=>?_⟩;obtain⟨b,off,e,hb,hmb,hj⟩:=h3 hn;refine⟨b,off,e,hb,fun hm'=>hmb (hm b hb hm'),fun j hjn=>?_⟩;obtain⟨u,hr,hu'⟩:=hj j hjn;exact⟨u,hr,a8.turn hm (g j) u hu'⟩
 | .pat es x,v,h=>by
  simp only[a8]at h ⊢;obtain⟨b,off,u,h1,hb,hmb,hr,hx⟩:=h;exact⟨b,off,u,h1,hb,fun hm'=>hmb (hm b hb hm'),hr,a8.turn hm x u hx⟩
 | .tup l,v,h=>by
  simp only[a8]at h ⊢;obtain⟨vs,h1,h2⟩:=h;exact⟨vs,h1,a6.turn hm l vs h2⟩
 | .agg l,v,h=>by
  simp only[a8]at h ⊢;obtain⟨vs,h1,h2⟩:=h;exact⟨vs,h1,a6.turn hm l vs h2⟩
 | .fn f l,v,h=>by
  simp only[a8]at h ⊢;obtain⟨vs,h1,h2⟩:=h;exact⟨vs,h1,a6.turn hm l vs h2⟩
 | .mag n,v,h=>by simpa [a8]using h
 | .fp b i f,v,h=>by simpa [a8]using h
 | .bset p,v,h=>by simpa [a8]using h
 | .any,v,h=>by simp[a8]
 | .nfn,v,h=>by simpa [a8]using h
 | .mfn f l,v,h=>by
  simp only[a8]at h ⊢;obtain⟨vs,h1,h2⟩:=h;exact⟨vs,h1,a6.turn hm l vs h2⟩
theorem a6.turn{M M':Nat->Prop}{w:World}(hm:∀k,k<w.heap.size->M' k->M k):∀(l:List AV) (vs:List Value),a6 w M l vs->a6 w M' l vs
 | [],[],_=>by simp[a6]
 | a::l,v::vs,h=>by
  simp only[a6]at h ⊢;exact⟨a8.turn hm a v h.1,a6.turn hm l vs h.2⟩
 | [],_::_,h=>by simp[a6]at h
 | _::_,[],h=>by simp[a6]at h
end
theorem co.any{w w':World}(h:co oS oS w w')(M:Nat->Prop):co M M w w':=⟨h.os,h.tape,h.output,h.size,fun k hk _=>h.keep k hk (fun x=>x),h.shape,fun _ _ h=>h⟩
theorem dz.frozen{w w':World}{S:St}(h:dz w S)(hg:co oS oS w w'):dz w' S:=fun b X hX=>by
 obtain⟨cs,h1,h2,h3,h4⟩:=h b X hX;exact⟨cs,(hg.keep b (dE h1) (fun x=>x)).trans h1,h2,fun j hj=>by obtain⟨u,h5,h6⟩:=h3 j hj;exact⟨u,h5,a8.grow h.noU (hg.any _) _ _ h6⟩,h4⟩
def Kh(w:World)(M:Nat->Prop)(S:St):Prop:=∀b x,S b=some x->∃cs,w.heap[b]? = some (.cells cs x.ty (0,0))/\x.es*x.n<=cs.size /\
 (∀j,j<x.n->∃u,reads cs (x.es*j) x.es u/\a8 w M (x.g j) u)/\∀(k:Nat) (y:Value),cs[k]? = some y->jQ y
def ZX(X:dn)(zc:Array Value):Prop:=X.es*X.n<=zc.size/\(∀w M j,j<X.n->∃u,reads zc (X.es*j) X.es u/\a8 w M (X.g j) u)/\∀(k:Nat) (y:Value),zc[k]? = some y->jQ y
theorem oK{w:World}{a:Act}{N B0:Nat}{M:Nat->Prop}{K:Tm->St->Prop}:∀(L:List (Nat×dn×Nat)) (O:Tm) (S:St),lM (L.map fun x=>(x.1,x.2.1)) O S K ->
  Kh w M S->(∀t,a8 w M (O t) (a.tmps.getD t undef))->(∀x∈L,a.tmps.getD x.1 undef=.pointer (some ⟨x.2.2,0,ac⟩)/\∃zc,w.heap[x.2.2]? = some (.cells zc x.2.1.ty (0,0))/\ZX x.2.1 zc) ->
  (L.map (·.2.2)).Nodup->(∀x∈L,S x.2.2=ac/\B0<=x.2.2) ->
  ∃O' S',K O' S'/\Kh w M S'/\(∀t,a8 w M (O' t) (a.tmps.getD t undef))/\∀k,S'.dom k->S.dom k∨B0<=k
 | [],O,S,h,h1,h2,_,_,_=>⟨O,S,by simpa [lM]using h,h1,h2,fun k hk=>bH hk⟩
 | (d,X,b)::L,O,S,h,h1,h2,h3,h4,h5=>by
  simp only[cj,lM]at h;obtain⟨p1,zc,p2,p3,p4,p5⟩:=h3 (d,X,b) (dU ..);obtain⟨q1,q2⟩:=h5 (d,X,b) (dU ..);simp only at p1 p2 p3 p4 p5 q1 q2;simp only[cj,List.nodup_cons]at h4;obtain⟨O',S',r1,r2,r3,r4⟩:=oK (B0:=B0) (N:=N) L (O.put (some d) (.ptr X.es b 0)) (S.upd b X) (h b q1)
   (fun k Y hY=>by
    simp only[St.upd]at hY;by_cases e:k=b
    ·rw[if_pos e]at hY;cases hY;subst e;exact⟨zc,p2,p3,fun j hj=>p4 w M j hj,p5⟩
    ·rw[if_neg e]at hY;exact h1 k Y hY)
   (fun t=>by
    simp only[Tm.put_eq];by_cases e:t=d
    ·subst e;rw[if_pos rfl,p1];simp[a8]
    ·rw[if_neg e];exact h2 t)
   (fun x hx=>h3 x (dk _ hx)) h4.2
   (fun x hx=>by
    obtain⟨s1,s2⟩:=h5 x (dk _ hx);refine⟨?_,s2⟩;simp only[St.upd];rw[if_neg]
    ·exact s1
    ·intro e;exact h4.1 (by rw[<-e];exact eY.2 ⟨x,hx,rfl⟩))
  refine⟨O',S',r1,r2,r3,fun k hk=>?_⟩;rcases r4 k hk with h6|h6
  ·simp only[St.dom,St.upd]at h6 ⊢;by_cases e:k=b
   ·right;rw[e];exact q2
   ·rw[if_neg e]at h6;exact bH h6
  ·exact bD h6
theorem iU{a:Act}{d:Option Nat}{v:Value}{t:Nat}(h:d≠some t):(a.put d v).tmps.getD t undef=a.tmps.getD t undef:=by
 cases d with
 | none=>rfl
 | some d =>
  simp only[Act.put,aF];rw[bZ (fun e=>h (by rw[e]))]
theorem put_eq{a:Act}{d:Nat}{v:Value}(h:d<a.tmps.size):(a.put (some d) v).tmps.getD d undef=v:=by
 simp[Act.put,Array.getD,h]
theorem iZ{a:Act}{d:Option Nat}{v:Value}:(a.put d v).tmps.size=a.tmps.size:=by cases d<;>simp[Act.put]
theorem gH{a:Act}{d:Option Nat}{v:Value}:(a.put d v).defers=a.defers:=by cases d<;>simp[Act.put]
structure oa(ops:Array Oper)(q:Nat)(S:St)(O1:Tm)(al:Nat->Option dn)(N:Nat)(a0:Act)(w0:World)(listed:Array Bool)(a:Act)(w:World):Prop where
 size:listed.size=ops.size
 tailU:∀i,q<=i->i<ops.size->listed.getD i true=false
 defers:a.defers=[]
 tsize:a.tmps.size=N
 gr:co oS oS w0 w
 tm:∀t,(∀(j:Nat) (o:Oper),j<q->ops[j]? = some o->o.dst=some t->listed.getD j false=true)->a8 w S.dom (O1 t) (a.tmps.getD t undef)
 old:∀t,(∀(j:Nat) (o:Oper),j<q->ops[j]? = some o->o.dst≠some t)->a.tmps.getD t undef=a0.tmps.getD t undef
 news:∃B:Nat->Nat,(∀(i:Nat) (o:Oper) (X:dn) (d:Nat),i<q->ops[i]? = some o->al i=some X->o.dst=some d->listed.getD i false=true ->
   a.tmps.getD d undef=.pointer (some ⟨B i,0,ac⟩)/\w0.heap.size<=B i/\∃zc,w.heap[B i]? = some (.cells zc X.ty (0,0))/\ZX X zc) /\
  ∀i j,i<q->j<q->(al i).isSome=true->(al j).isSome=true->listed.getD i false=true->listed.getD j false=true->B i=B j->i=j
structure zu(ops:Array Oper)(q:Nat)(K:Tm->St->Prop)(D:Nat->Prop)(N:Nat)(w0:World)(listed:Array Bool)(a:Act)(w:World):Prop where
 ex:∃k,q<=k/\k<=ops.size/\listed.size=ops.size/\(∀i,i<ops.size->(listed.getD i true=true↔i<k))/\∃O S,sW ops (ops.toList.drop k) O S K/\RT O S N a w/\co D S.dom w0 w
theorem nk{α β:Type}{f:α->β}:∀{l:List α},l.Nodup->(∀x∈l,∀y∈l,f x=f y->x=y)->(l.map f).Nodup
 | [],_,_=>by simp
 | a::l,h,hf=>by
  simp only[List.nodup_cons]at h;simp only[cj,List.nodup_cons,eY,not_exists,not_and];refine⟨fun x hx e=>?_,nk h.2 (fun x hx y hy=>hf x (dk _ hx) y (dk _ hy))⟩;have:=hf x (dk _ hx) a (dU ..) e;subst this;exact h.1 hx
theorem mJ(n i:Nat):(im n false).getD i false=false:=by
 rw[aF,Array.getElem?_replicate];split<;>rfl
theorem yD{n i:Nat}(h:i<n):(im n false).getD i true=false:=by
 rw[aF,Array.getElem?_replicate,if_pos h];rfl
theorem EQ{ops:Array Oper}{N id:Nat}{Q:Exit->Act->World->Prop}{K:Tm->St->Prop}{O:Tm}{S:St}{a:Act}{w:World}(h:awD ops O S K)(hr:RT O S N a w)(hd:pB N ops.toList=true)
  (hq:∀O' S' a' w',K O' S'->RT O' S' N a' w'->co S.dom S'.dom w w'->Q .normal a' w'):(Code.region id ops true).wp Tryz.prog Q a w:=by
 obtain⟨q,hok,hH⟩:=h;have D:=AP hok;have hlen:(ops.toList.take q).length=q:=by rw[dX];have:=D.le;simp;omega
 obtain⟨Os,al,e0,hK,hi⟩:=mS _ _ _ _ _ hH;rw[hlen]at hK;have hi':∀(i:Nat) (o:Oper),i<q->ops[i]? = some o->(∃t d X,o.op=.alloc t/\o.dst=some d/\kf t=some X/\al i=some X/\Os (i+1)=(Os i).put (some d) .any) ∨
   (al i=ac/\∃z,wa o (Os i) S z/\Os (i+1)=(Os i).put o.dst z):=fun i o hiq ho=>hi i o (by rw[er,if_pos hiq];simpa using ho)
 have step_ne:∀i o t,i<q->ops[i]? = some o->o.dst≠some t->Os (i+1) t=Os i t:=by
  intro i o t hiq ho ht;rcases hi' i o hiq ho with⟨_,d,X,_,h2,_,_,h5⟩|⟨_,z,_,h5⟩
  ·rw[h5];simp only[Tm.put_eq];rw[if_neg];intro e;exact ht (by rw[h2,e])
  ·rw[h5]
   cases hdo:o.dst with
   | none=>rw[Tm.put_eq]
   | some d=>simp only[Tm.put_eq];rw[if_neg];intro e;exact ht (by rw[hdo,e])
 have stable:∀t k i,i<=k->k<=q->(∀j o,i<=j->j<k->ops[j]? = some o->o.dst≠some t)->Os k t=Os i t:=by
  intro t k
  induction k with
  | zero=>intro i h1 _ _;rw[show i=0 by omega]
  | succ k ih =>
   intro i h1 h2 h3;by_cases e:i=k+1
   ·rw[e]
   ·have hk:k<ops.size:=by have:=D.le;omega
    rw[step_ne k ops[k] t om (aB hk) (h3 k _ om om (aB hk))];exact ih i om om (fun j o hj1 hj2 ho=>h3 j o hj1 om ho)
 have w0s:dz w.drew S:=hr.st.drew;have r0:RT O S N a w.drew:=⟨hr.defers,hr.size,fun t=>a8.grow hr.st.noU (co.drew _ w) _ _ (hr.tm t),w0s⟩;have dstN:∀(i:Nat) (o:Oper) (d:Nat),ops[i]? = some o->o.dst=some d->d<N:=by
  intro i o d ho hdd;have:=az.1 hd o (cq (by simpa using ho:ops.toList[i]? = some o))
  rw[hdd]at this;simpa using this
 have HT:∀listed a' w',oa ops q S (Os q) al N a w.drew listed a' w'->(∀j,j<q->listed.getD j false=true)->zu ops q K S.dom N w.drew listed a' w':=by
  intro listed a' w' H hall;have hS:dz w' S:=w0s.frozen H.gr;have htm:∀t,a8 w' S.dom (Os q t) (a'.tmps.getD t undef):=fun t=>H.tm t (fun j o hj _ _=>hall j hj);refine⟨q,ah _,D.le,H.size,fun i hio=>?_,?_⟩
  ·constructor
   ·intro h1;rcases aE i q with h2|h2
    ·exact h2
    ·rw[H.tailU i h2 hio]at h1;cases h1
   ·intro h1;have:=hall i h1;rw[aF]at this ⊢
    cases hl:listed[i]? with
    | none=>rw[hl]at this;cases this
    | some b=>rw[hl]at this;exact this
  ·generalize hpe:(([]:List (Nat×dn))++(cf q).filterMap (fun i=>(al i).bind fun X=>((ops.toList.take q)[i]?).bind fun o=>o.dst.map fun d=>(d,X)))=pend at hK;by_cases hem:pend.isEmpty=true
   ·simp only[hem,if_true]at hK;exact⟨_,S,hK,⟨H.defers,H.tsize,htm,hS⟩,H.gr.any _⟩
   ·simp only[hem]at hK;obtain⟨B,hB1,hB2⟩:=H.news
    let idx:=(cf q).filter (fun i=>((al i).bind fun X=>((ops.toList.take q)[i]?).bind fun o=>o.dst.map fun d=>(d,X)).isSome)
    let f:Nat->Nat×dn×Nat:=fun i=>match ((al i).bind fun X=>((ops.toList.take q)[i]?).bind fun o=>o.dst.map fun d=>(d,X))with
     | some (d,X)=>(d,X,B i)
     | ac=>(0,⟨0,0,0,fun _=>.any⟩,B i)
    have hidx:∀i∈idx,∃o X d,i<q/\ops[i]? = some o/\al i=some X/\o.dst=some d/\f i=(d,X,B i):=by
     intro i hii;simp only[idx,List.mem_filter,List.mem_range]at hii;obtain⟨h1,h2⟩:=hii;obtain⟨p,hp⟩:=Option.isSome_iff_exists.1 h2;have hf:f i=(p.1,p.2,B i):=by simp only[f,hp]
     simp only[Option.bind_eq_some_iff,Option.map_eq_some_iff]at hp;obtain⟨X,hX,o,ho,d,hd1,hd2⟩:=hp;rw[er,if_pos h1]at ho;refine⟨o,X,d,h1,by simpa using ho,hX,hd1,?_⟩
     rw[hf,<-hd2]
    have hpend:pend=(idx.map f).map fun x=>(x.1,x.2.1):=by
     rw[<-hpe,kN,List.map_map];simp only[idx];generalize cf q=rg
     induction rg with
     | nil=>rfl
     | cons i rg ih =>
      simp only[List.filterMap_cons,List.filter_cons]
      cases hc:((al i).bind fun X=>((ops.toList.take q)[i]?).bind fun o=>o.dst.map fun d=>(d,X))with
      | none=>simp only[Option.isSome_none,aN,if_false];exact ih
      | some p=>simp only[Option.isSome_some,if_true,cj];rw[<-ih];simp only[Function.comp,f,hc]
    rw[hpend]at hK
    let M:Nat->Prop:=fun b=>S.dom b∨w.drew.heap.size<=b
    have hnuM:Ma M w.drew:=by
     intro b hb cs ty fr hc;rcases hb with hb|hb
     ·exact w0s.noU b hb cs ty fr hc
     ·exact absurd (dE hc) om
    have up:∀x v,a8 w.drew S.dom x v->a8 w' M x v:=fun x v hx =>
     a8.grow hnuM (H.gr.any M) x v (a8.turn (M:=S.dom) (M':=M) (fun k hk hm=>by
      rcases hm with hm|hm
      ·exact hm
      ·omega) x v hx)
    have hres:=oK (a:=a') (w:=w') (N:=N) (B0:=w.drew.heap.size) (M:=M) (idx.map f) _ S hK
     (fun b X hX=>by
      obtain⟨cs,h1,h2,h3,h4⟩:=w0s b X hX;exact⟨cs,(H.gr.keep b (dE h1) (fun x=>x)).trans h1,h2,fun j hj=>by obtain⟨u,h5,h6⟩:=h3 j hj;exact⟨u,h5,up _ _ h6⟩,h4⟩)
     (fun t=>by
      simp only[qG];by_cases hin:(ky (ops.toList.take q)).contains t=true
      ·by_cases hmf:nY (Os q t)=true
       ·simp only[hmf,Bool.not_true,Bool.and_false,aN,if_false];exact nr hmf (htm t)
       ·simp only[hin,hmf,Bool.not_false,Bool.and_self,if_true];simp[a8]
      ·simp only[hin,Bool.false_and,aN,if_false];have hno:∀(j:Nat) (o:Oper),j<q->ops[j]? = some o->o.dst≠some t:=by
        intro j o hj ho hdt;apply hin;simp only[ky,List.contains_iff_mem,gT];exact⟨o,cq (i:=j) (by rw[er,if_pos hj];simpa using ho),hdt⟩
       rw[H.old t hno,stable t q 0 om (ah _) (fun j o _ hj ho=>hno j o hj ho),e0];exact up _ _ (r0.tm t))
     (fun x hx=>by
      obtain⟨i,hii,rfl⟩:=eY.1 hx;obtain⟨o,X,d,h1,h2,h3,h4,h5⟩:=hidx i hii;rw[h5];obtain⟨g1,g2,g3⟩:=hB1 i o X d h1 h2 h3 h4 (hall i h1);exact⟨g1,g3⟩)
     (by
      rw[List.map_map];refine nk (List.Pairwise.filter _ List.nodup_range) (fun i hii j hjj e=>?_);obtain⟨o,X,d,h1,h2,h3,h4,h5⟩:=hidx i hii;obtain⟨o',X',d',h1',h2',h3',h4',h5'⟩:=hidx j hjj;simp only[Function.comp,h5,h5']at e;exact hB2 i j h1 h1' (by rw[h3];rfl) (by rw[h3'];rfl) (hall i h1) (hall j h1') e)
     (fun x hx=>by
      obtain⟨i,hii,rfl⟩:=eY.1 hx;obtain⟨o,X,d,h1,h2,h3,h4,h5⟩:=hidx i hii;rw[h5];obtain⟨g1,g2,g3⟩:=hB1 i o X d h1 h2 h3 h4 (hall i h1);exact⟨w0s.fresh g2,g2⟩)
    obtain⟨O',S',k1,k2,k3,k4⟩:=hres;have hdom:∀k,k<w'.heap.size->S'.dom k->M k:=fun k _ hk=>k4 k hk;refine⟨O',S',k1,⟨H.defers,H.tsize,fun t=>a8.turn hdom _ _ (k3 t),fun b X hX=>?_⟩,?_⟩
    ·obtain⟨cs,h1,h2,h3,h4⟩:=k2 b X hX;exact⟨cs,h1,h2,fun j hj=>by obtain⟨u,h5,h6⟩:=h3 j hj;exact⟨u,h5,a8.turn hdom _ _ h6⟩,h4⟩
    ·refine⟨H.gr.os,H.gr.tape,H.gr.output,H.gr.size,fun k hk _=>H.gr.keep k hk (fun x=>x),H.gr.shape,fun k hk hm=>?_⟩;rcases k4 k hm with h6|h6
     ·exact h6
     ·exact absurd hk om
 have tailStep:∀listed a' w' i,zu ops q K S.dom N w.drew listed a' w'->fE ops listed->i∈Region.ready .any ops listed->wpOp Tryz.prog ops Q i (fun a'' w''=>oa ops q S (Os q) al N a w.drew (listed.setIfInBounds i true) a'' w''∨zu ops q K S.dom N w.drew (listed.setIfInBounds i true) a'' w'') a' w':=by
  intro listed a' w' i T hcl hi;obtain⟨k,hk1,hk2,hsz,hl,O',S',hL,hR,hG⟩:=T.ex;obtain⟨o,ho,hun,haft⟩:=df hi;have hio:i<ops.size:=(bM.1 ho).1;have hik:i=k:=by
   rcases dJ i k with h1|h1|h1
   ·rw[(hl i hio).2 h1]at hun;cases hun
   ·exact h1
   ·have h2:listed.getD k false=true:=(D.tail i o om ho k h1).elim (haft k) (eB hcl 12 k i o ho haft);have h3:listed.getD k true=true:=by
     rw[aF]at h2 ⊢
     cases hx:listed[k]? with
     | none=>rw[hx]at h2;cases h2
     | some b=>rw[hx]at h2;exact h2
    have:=(hl k om).1 h3;omega
  subst hik;have hdrop:ops.toList.drop i=o::ops.toList.drop (i+1):=by
   have h1:ops.toList[i]? = some o:=by simpa using ho
   rw[ij (by simpa using hio)]
   congr 1;have:=cG.1 h1;exact this.2
  rw[hdrop]at hL;unfold sW at hL;rw[D.guard i o ho]at hL;unfold wpOp;simp only[ho];rw[if_pos (by simp[Region.wanted,D.guard i o ho])]
  refine bH (kg hL hR (fun z v w'' S'' hz hv hs hg=>bD ⟨i+1,by omega,by omega,by simp[hsz],fun j hj=>?_,_,S'',hz,hR.put hg hs (fun d hdd=>dstN i o d ho hdd) hv,hG.trans hg⟩))
  rw[cb _ _ _ _ om];by_cases e:j=i
  ·subst e;simp
  ·rw[if_neg e,hl j hj];omega
 have headStep:∀listed a' w' i,oa ops q S (Os q) al N a w.drew listed a' w'->fE ops listed->i∈Region.ready .any ops listed->wpOp Tryz.prog ops Q i (fun a'' w''=>oa ops q S (Os q) al N a w.drew (listed.setIfInBounds i true) a'' w''∨zu ops q K S.dom N w.drew (listed.setIfInBounds i true) a'' w'') a' w':=by
  intro listed a' w' i H hcl hi;obtain⟨o,ho,hun,haft⟩:=df hi;have hio:i<ops.size:=(bM.1 ho).1;have hils:i<listed.size:=by rw[H.size];exact hio
  rcases aE i q with hiq|hiq
  ·have hset:∀j d,(listed.setIfInBounds i true).getD j d=if j=i then true else listed.getD j d:=fun j d=>cb _ _ _ _ hils
   have gr2:∀{w'':World},co oS oS w' w''->co oS oS w.drew w'':=fun hg=>H.gr.trans hg;have hS:dz w' S:=w0s.frozen H.gr;have mk:∀(v:Value) (w'':World),co oS oS w' w''->(∀d,o.dst=some d->a8 w'' S.dom (Os q d) v) ->
     (∃B:Nat->Nat,(∀(j:Nat) (p:Oper) (X:dn) (d:Nat),j<q->ops[j]? = some p->al j=some X->p.dst=some d->(listed.setIfInBounds i true).getD j false=true ->
       (a'.put o.dst v).tmps.getD d undef=.pointer (some ⟨B j,0,ac⟩)/\w.drew.heap.size<=B j/\∃zc,w''.heap[B j]? = some (.cells zc X.ty (0,0))/\ZX X zc) /\
      ∀j k,j<q->k<q->(al j).isSome=true->(al k).isSome=true->(listed.setIfInBounds i true).getD j false=true->(listed.setIfInBounds i true).getD k false=true->B j=B k->j=k) ->
     oa ops q S (Os q) al N a w.drew (listed.setIfInBounds i true) (a'.put o.dst v) w'':=by
    intro v w'' hg hz hB;refine⟨by simp[H.size],fun j hj1 hj2=>?_,by rw[gH];exact H.defers,by rw[iZ];exact H.tsize,gr2 hg,fun t ht=>?_,fun t ht=>?_,hB⟩
    ·rw[hset,if_neg om];exact H.tailU j hj1 hj2
    ·by_cases e:o.dst=some t
     ·rw[e,put_eq (by rw[H.tsize];exact dstN i o t ho e)]
      exact hz t e
     ·rw[iU e];refine a8.grow hS.noU (hg.any _) _ _ (H.tm t (fun j p hj hp hpt=>?_));have:=ht j p hj hp hpt;rw[hset]at this;by_cases e2:j=i
      ·subst e2;rw[ho]at hp;cases hp;exact absurd hpt e
      ·rw[if_neg e2]at this;exact this
    ·rw[iU (ht i o hiq ho)];exact H.old t ht
   rcases hi' i o hiq ho with⟨t,d,X,hop,hdst,hX,hal,hO⟩|⟨hal,z,hz,hO⟩
   ·obtain⟨zc,z1,z2,z3⟩:=xV hX;unfold wpOp;simp only[ho];rw[if_pos (by simp[Region.wanted,D.guard i o ho])]
    refine bH (eW (v:=.pointer (some ⟨w'.heap.size,0,ac⟩)) (w':=w'.alloc (.cells zc t)) (by simp[execOp,hop,z2 w']) (bH ?_))
    have hg:co oS oS w' (w'.alloc (.cells zc t)):=⟨rfl,rfl,rfl,by simp,fun k hk _=>mA w' _ k hk,fun k cs ty fr hc=>⟨cs,by rw[mA w' _ k (dE hc)];exact hc,rfl⟩,fun _ _ h=>h⟩
    obtain⟨B,hB1,hB2⟩:=H.news;have hBlt:∀(j:Nat) (p:Oper) (Y:dn) (e:Nat),j<q->ops[j]? = some p->al j=some Y->p.dst=some e->listed.getD j false=true->B j<w'.heap.size:=by
     intro j p Y e h1 h2 h3 h4 h5;obtain⟨_,_,zc',hz',_⟩:=hB1 j p Y e h1 h2 h3 h4 h5;exact dE hz'
    have hdsome:∀(j:Nat),j<q->(al j).isSome=true->∃p Y e,ops[j]? = some p/\al j=some Y/\p.dst=some e:=by
     intro j hj hs;have hjs:j<ops.size:=by have:=D.le;omega
     rcases hi' j ops[j] hj (aB hjs)with⟨_,e,Y,_,h2,_,h4,_⟩|⟨h4,_⟩
     ·exact⟨ops[j],Y,e,aB hjs,h4,h2⟩
     ·rw[h4]at hs;cases hs
    refine mk _ _ hg (fun d' hd'=>?_) ⟨fun j=>if j=i then w'.heap.size else B j,fun j p Y e h1 h2 h3 h4 h5=>?_,fun j k h1 h2 h3 h4 h5 h6 h7=>?_⟩
    ·rw[hdst]at hd';cases hd';have:Os q d=.any:=by
      rw[stable d q (i+1) om (ah _) (fun j p hj1 hj2 hp hpd=>by
       have:=D.apart i o j p d hiq hj2 ho hp hdst hpd;omega),hO]
      simp[Tm.put_eq]
     rw[this];simp[a8]
    ·by_cases e2:j=i
     ·subst e2;rw[ho]at h2;cases h2;rw[hdst]at h4;cases h4;rw[hal]at h3;cases h3;simp only[if_true];refine⟨by rw[hdst,put_eq (by rw[H.tsize];exact dstN j o d ho hdst)],H.gr.size,zc,?_,z3⟩
      rw[z1];exact heap_alloc_new w' _
     ·simp only[if_neg e2];rw[hset,if_neg e2]at h5;obtain⟨g1,g2,zc',g3,g4⟩:=hB1 j p Y e h1 h2 h3 h4 h5;refine⟨?_,g2,zc',?_,g4⟩
      ·rw[iU]
       ·exact g1
       ·intro e3;exact e2 (D.apart j p i o e h1 hiq h2 ho h4 e3)
      ·rw[mA w' _ _ (dE g3)];exact g3
    ·rw[hset]at h5 h6;by_cases e1:j=i
     ·by_cases e2:k=i
      ·rw[e1,e2]
      ·simp only[if_pos e1,if_neg e2]at h7;rw[if_neg e2]at h6;obtain⟨p,Y,e,b1,b2,b3⟩:=hdsome k h2 h4;have:=hBlt k p Y e h2 b1 b2 b3 h6;omega
     ·by_cases e2:k=i
      ·simp only[if_neg e1,if_pos e2]at h7;rw[if_neg e1]at h5;obtain⟨p,Y,e,b1,b2,b3⟩:=hdsome j h1 h3;have:=hBlt j p Y e h1 b1 b2 b3 h5;omega
      ·simp only[if_neg e1,if_neg e2]at h7;rw[if_neg e1]at h5;rw[if_neg e2]at h6;exact hB2 j k h1 h2 h3 h4 h5 h6 h7
   ·classical
    let Oe:Tm:=fun t=>if (∀(j:Nat) (p:Oper),j<q->ops[j]? = some p->p.dst=some t->listed.getD j false=true)then Os q t else .any
    have hRe:RT Oe S N a' w':=⟨H.defers,H.tsize,fun t=>by
     simp only[Oe];split
     ·rename_i hc;exact H.tm t hc
     ·simp[a8],hS⟩
    have hze:wa o Oe S z:=ko (i9 fun t ht=>by
     have hc:∀(j:Nat) (p:Oper),j<q->ops[j]? = some p->p.dst=some t->listed.getD j false=true:=fun j p hj hp hpt =>
      haft j (D.reads i o j p t hiq hj ho hp hpt ht).2
     simp only[Oe];rw[if_pos hc,stable t q i om (ah _) (fun j p hj1 hj2 hp hpt=>by
      have:=(D.reads i o j p t hiq hj2 ho hp hpt ht).1;omega)]) hz
    unfold wpOp;simp only[ho];rw[if_pos (by simp[Region.wanted,D.guard i o ho])]
    refine bH (lw hze hRe (fun v w'' hv hg=>bH ?_));obtain⟨B,hB1,hB2⟩:=H.news;refine mk v w'' hg (fun d hdd=>?_) ⟨B,fun j p Y e h1 h2 h3 h4 h5=>?_,fun j k h1 h2 h3 h4 h5 h6 h7=>?_⟩
    ·have:Os q d=z:=by
      rw[stable d q (i+1) om (ah _) (fun j p hj1 hj2 hp hpd=>by
       have:=D.apart i o j p d hiq hj2 ho hp hdd hpd;omega),hO,hdd]
      simp[Tm.put_eq]
     rw[this];exact hv
    ·have hji:j≠i:=fun e2=>by subst e2;rw[hal]at h3;cases h3
     rw[hset,if_neg hji]at h5;obtain⟨g1,g2,zc',g3,g4⟩:=hB1 j p Y e h1 h2 h3 h4 h5;refine⟨?_,g2,zc',(hg.keep _ (dE g3) (fun x=>x)).trans g3,g4⟩;rw[iU]
     ·exact g1
     ·intro e3;exact hji (D.apart j p i o e h1 hiq h2 ho h4 e3)
    ·rw[hset]at h5 h6;have hji:j≠i:=fun e2=>by subst e2;rw[hal]at h3;cases h3
     have hki:k≠i:=fun e2=>by subst e2;rw[hal]at h4;cases h4
     rw[if_neg hji]at h5;rw[if_neg hki]at h6;exact hB2 j k h1 h2 h3 h4 h5 h6 h7
  ·have hall:∀j,j<q->listed.getD j false=true:=fun j hj=>(D.tail i o hiq ho j om).elim (haft j) (eB hcl 12 j i o ho haft);exact tailStep listed a' w' i (HT listed a' w' H hall) hcl hi
 have first:∀listed,listed.size=ops.size->Region.ready .any ops listed=[]->∀m,m<=ops.size->∀j,j<m->listed.getD j false=true:=by
  intro listed hsz hre m
  induction m with
  | zero=>intro _ j hj;omega
  | succ m ih =>
   intro hm j hj;by_cases e:j<m
   ·exact ih om j e
   ·obtain rfl:j=m:=by omega
    have hjo:j<ops.size:=by omega
    cases hv:listed.getD j false with
    | true=>rfl
    | false =>
     have hj2:listed.getD j true=false:=by
      rw[aF,aB om]at hv ⊢;exact hv
     have:j∈Region.ready .any ops listed:=ot (aB hjo) hj2 (fun k hk=>ih om k (D.back j _ (aB hjo) k hk));rw[hre]at this;cases this
 refine wp_region_any (by kernel_rfl) (iN (fun listed a' w'=>fE ops listed/\(oa ops q S (Os q) al N a w.drew listed a' w'∨zu ops q K S.dom N w.drew listed a' w')) ?_ ?_ ops.size _ a w.drew ?_ ⟨fun i o ho h=>?_,bH ?_⟩)
 ·intro listed a' w' i hI hi;obtain⟨hcl,hI⟩:=hI;have hcl':fE ops (listed.setIfInBounds i true):=by
   obtain⟨o,ho,hun,haft⟩:=df hi;have hgo:∀k,listed.getD k false=true->(listed.setIfInBounds i true).getD k false=true:=fun k hk=>by
    rw[aF]at hk ⊢;rw[nR];split
    ·split<;>simp_all
    ·exact hk
   intro j p hp hj k hk;by_cases e:j=i
   ·subst e;rw[ho]at hp;cases hp;exact hgo k (haft k hk)
   ·refine hgo k (hcl j p hp ?_ k hk);rw[aF]at hj ⊢
    rwa [bZ (ak e)]at hj
  have e:(fun a'' w''=>fE ops (listed.setIfInBounds i true)/\(oa ops q S (Os q) al N a w.drew (listed.setIfInBounds i true) a'' w''∨zu ops q K S.dom N w.drew (listed.setIfInBounds i true) a'' w''))=fun a'' w''=>(oa ops q S (Os q) al N a w.drew (listed.setIfInBounds i true) a'' w''∨zu ops q K S.dom N w.drew (listed.setIfInBounds i true) a'' w''):=by
   funext a'' w'';simp[hcl']
  show wpOp Tryz.prog ops Q i (fun a'' w''=>fE ops (listed.setIfInBounds i true)/\(oa ops q S (Os q) al N a w.drew (listed.setIfInBounds i true) a'' w''∨zu ops q K S.dom N w.drew (listed.setIfInBounds i true) a'' w'')) a' w';rw[e];rcases hI with H|T
  ·exact headStep listed a' w' i H hcl hi
  ·exact tailStep listed a' w' i T hcl hi
 ·rintro listed a' w' ⟨_,hI⟩ hre;have fin:zu ops q K S.dom N w.drew listed a' w'->Q .normal a' w':=by
   intro T;obtain⟨k,hk1,hk2,hsz,hl,O',S',hL,hR,hG⟩:=T.ex;have hall:=first listed hsz hre ops.size (ah _)
   have hk:k=ops.size:=by
    rcases aE k ops.size with h1|h1
    ·have h2:=hall k h1;have h3:listed.getD k true=true:=by
      rw[aF]at h2 ⊢
      cases hx:listed[k]? with
      | none=>rw[hx]at h2;cases h2
      | some b=>rw[hx]at h2;exact h2
     have:=(hl k h1).1 h3;omega
    ·omega
   rw[hk,fy (by simp)]at hL
   exact hq O' S' a' w' hL hR ((co.drew S.dom w).trans hG)
  rcases hI with H|T
  ·exact fin (HT listed a' w' H (fun j hj=>first listed H.size hre ops.size (ah _) j (by have:=D.le;omega)))
  ·exact fin T
 ·simp only[Ia];exact bW mc (by simp)
 ·rw[mJ]at h;cases h
 ·refine⟨by simp,fun i _ hi2=>yD hi2,hr.defers,hr.size,co.refl _ _,fun t ht=>?_,fun _ _=>rfl,fun _=>0,fun i o X d h1 h2 h3 h4 h5=>?_,fun i j h1 h2 h3 h4 h5 h6 h7=>?_⟩
  ·have hno:∀(j:Nat) (o:Oper),j<q->ops[j]? = some o->o.dst≠some t:=by
    intro j o hj ho hdt;have:=ht j o hj ho hdt;rw[mJ]at this;cases this
   rw[stable t q 0 om (ah _) (fun j o _ hj ho=>hno j o hj ho),e0];exact r0.tm t
  ·rw[mJ]at h5;cases h5
  ·rw[mJ]at h5;cases h5
def Gm(l:List Oper)(q j:Nat):Bool:=decide (j<q)&&(match l[j]? with
 | some o=>(match o.op,o.dst with
  | .move _,some d=>(l.zipIdx.drop q).all (fun p=>(match p.1.dst with
    | some t=>!(jx o).contains t&&decide (t≠d)
    | ac=>true)&&(!(jx p.1).contains d||(aft p.1).contains j))
  | _,_=>false)
 | ac=>false)
def DF(ops:Array Oper)(q:Nat):Bool :=
 let l:=ops.toList
 l.all (fun o=>o.guard.isNone) &&
 l.zipIdx.all (fun p=>(aft p.1).all (fun k=>decide (k<p.2))) &&
 (l.take q).zipIdx.all (fun p=>(l.take q).zipIdx.all (fun r=>match r.1.dst with
  | some t=>!(jx p.1).contains t||(decide (r.2<p.2)&&(aft p.1).contains r.2)
  | ac=>true)) &&
 (l.take q).zipIdx.all (fun p=>(l.take q).zipIdx.all (fun r=>decide (p.2=r.2)||p.1.dst.isNone||p.1.dst != r.1.dst)) &&
 (l.zipIdx.drop q).all (fun p=>(cf p.2).all (fun j=>(aft p.1).contains j||Gm l q j||nS ops 12 j p.2)) &&
 decide (q<=l.length)
def awF(ops:Array Oper)(O:Tm)(S:St)(K:Tm->St->Prop):Prop:=∃q,DF ops q=true /\
 zh (ops.toList.take q) O S [] (fun O' pend=>pend.isEmpty=true/\sW ops (ops.toList.drop q) O' S K)
structure zI(ops:Array Oper)(q j:Nat)(x:Operand)(d:Nat):Prop where
 lt:j<q
 op:∃o,ops[j]? = some o/\o.op=.move x/\o.dst=some d
 tail:∀(i:Nat) (p:Oper),q<=i->ops[i]? = some p->(∀t,p.dst=some t->x≠.tmp t/\t≠d)/\(d∈jx p->j∈aft p)
structure FOK(ops:Array Oper)(q:Nat):Prop where
 guard:∀(i:Nat) (o:Oper),ops[i]? = some o->o.guard=ac
 back:∀(i:Nat) (o:Oper),ops[i]? = some o->∀k∈aft o,k<i
 reads:∀(i:Nat) (o:Oper) (j:Nat) (p:Oper) (t:Nat),i<q->j<q->ops[i]? = some o->ops[j]? = some p->p.dst=some t->t∈jx o->j<i/\j∈aft o
 apart:∀(i:Nat) (o:Oper) (j:Nat) (p:Oper) (t:Nat),i<q->j<q->ops[i]? = some o->ops[j]? = some p->o.dst=some t->p.dst=some t->i=j
 tail:∀(i:Nat) (o:Oper),q<=i->ops[i]? = some o->∀j,j<i->(j∈aft o∨nS ops 12 j i=true)∨∃x d,zI ops q j x d
 le:q<=ops.size
theorem Cq{ops:Array Oper}{q:Nat}(h:DF ops q=true):FOK ops q:=by
 simp only[DF,au,decide_eq_true_eq]at h;obtain⟨⟨⟨⟨⟨h1,h2⟩,h3⟩,h4⟩,h5⟩,h6⟩:=h;have gl:∀{i:Nat} {o:Oper},ops[i]? = some o->ops.toList[i]? = some o:=fun h=>by simpa using h
 have tk:∀{i:Nat} {o:Oper},i<q->ops[i]? = some o->(o,i)∈(ops.toList.take q).zipIdx:=fun hi ho=>fJ (by rw[er,if_pos hi];exact gl ho)
 have dm:∀{i:Nat} {o:Oper},q<=i->ops[i]? = some o->(o,i)∈ops.toList.zipIdx.drop q:=fun {i o} hi ho=>by
  rw[List.mem_iff_getElem?];exact⟨i-q,by rw[List.getElem?_drop,show q+(i-q)=i by omega,List.getElem?_zipIdx,gl ho];simp⟩
 refine⟨fun i o ho=>?_,fun i o ho k hk=>?_,fun i o j p t hi hj ho hp ht hl=>?_,fun i o j p t hi hj ho hp ht hpt=>?_,fun i o hi ho j hj=>?_,by simpa using h6⟩
 ·have:=az.1 h1 o (cq (gl ho));simpa using this
 ·have:=az.1 (az.1 h2 (o,i) (fJ (gl ho))) k hk;simpa using this
 ·have:=az.1 (az.1 h3 (o,i) (tk hi ho)) (p,j) (tk hj hp);simp only[ht]at this;simp only[cW,eO,au,decide_eq_true_eq]at this;rcases this with h7|h7
  ·simp at h7;exact absurd hl h7
  ·exact⟨h7.1,by simpa using h7.2⟩
 ·have:=az.1 (az.1 h4 (o,i) (tk hi ho)) (p,j) (tk hj hp);simp only[ht,hpt]at this;simpa using this
 ·have:=az.1 (az.1 h5 (o,i) (dm hi ho)) j (by simpa using hj)
  simp only[cW]at this;rcases this with (h7|h7)|h7
  ·exact bH (bH (by simpa using h7))
  ·right;simp only[Gm,au,decide_eq_true_eq]at h7;obtain⟨hjq,h7⟩:=h7
   cases hoj:ops.toList[j]? with
   | none=>rw[hoj]at h7;cases h7
   | some oj =>
    rw[hoj]at h7;simp only at h7;split at h7
    ·rename_i x d hop hds;refine⟨x,d,hjq,⟨oj,by simpa using hoj,hop,hds⟩,fun i' p hi' hp=>?_⟩
     have h8:=az.1 h7 (p,i') (dm hi' hp);simp only[au,cW,eO]at h8;refine⟨fun t ht=>?_,fun hd=>?_⟩
     ·have h9:=h8.1;rw[ht]at h9;simp only[au,eO,decide_eq_true_eq]at h9;refine⟨?_,h9.2⟩;rintro rfl;have:t∈jx oj:=by simp only[jx,hop,Op.operands,gT];exact⟨.tmp t,by simp,rfl⟩
      have h10:=h9.1;simp at h10;exact h10 this
     ·rcases h8.2 with h9|h9
      ·simp at h9;exact absurd hd h9
      ·simpa using h9
    ·cases h7
  ·exact bH (bD h7)
structure ld(ops:Array Oper)(q:Nat)(S:St)(O1:Tm)(N:Nat)(w0:World)(listed:Array Bool)(a:Act)(w:World):Prop where
 size:listed.size=ops.size
 tailU:∀i,q<=i->i<ops.size->listed.getD i true=false
 defers:a.defers=[]
 tsize:a.tmps.size=N
 gr:co oS oS w0 w
 tm:∀t,(∀(j:Nat) (o:Oper),j<q->ops[j]? = some o->o.dst=some t->listed.getD j false=true)->a8 w S.dom (O1 t) (a.tmps.getD t undef)
def Ly(ops:Array Oper)(q:Nat)(listed:Array Bool)(t:Nat):Prop:=∃j x,listed.getD j true=false/\zI ops q j x t
structure q9(ops:Array Oper)(q:Nat)(K:Tm->St->Prop)(D:Nat->Prop)(N:Nat)(w0:World)(listed:Array Bool)(a:Act)(w:World):Prop where
 ex:∃k O S,q<=k/\k<=ops.size/\listed.size=ops.size/\(∀i,q<=i->i<ops.size->(listed.getD i true=true↔i<k)) /\
  (∀j,j<q->listed.getD j true=false->∃x d,zI ops q j x d/\O d=ev O x)/\sW ops (ops.toList.drop k) O S K /\
  a.defers=[]/\a.tmps.size=N/\dz w S/\(∀t,¬Ly ops q listed t->a8 w S.dom (O t) (a.tmps.getD t undef))/\co D S.dom w0 w
theorem eK{listed:Array Bool}{k:Nat}(h:listed.getD k false=true):listed.getD k true=true:=by
 rw[aF]at h ⊢
 cases hx:listed[k]? with
 | none=>rw[hx]at h;cases h
 | some b=>rw[hx]at h;exact h
theorem td{O:Tm}{x:AV}:O.put ac x=O:=by rw[Tm.put_eq]
theorem mK{O:Tm}{d t:Nat}{x:AV}(h:t≠d):O.put (some d) x t=O t:=by simp[Tm.put_eq,h]
theorem EP{ops:Array Oper}{N id:Nat}{Q:Exit->Act->World->Prop}{K:Tm->St->Prop}{O:Tm}{S:St}{a:Act}{w:World}(h:awF ops O S K)(hr:RT O S N a w)(hd:pB N ops.toList=true)
  (hq:∀O' S' a' w',K O' S'->RT O' S' N a' w'->co S.dom S'.dom w w'->Q .normal a' w'):(Code.region id ops true).wp Tryz.prog Q a w:=by
 classical
 obtain⟨q,hok,hH⟩:=h;have D:=Cq hok;have hlen:(ops.toList.take q).length=q:=by rw[dX];have:=D.le;simp;omega
 obtain⟨Os,al,e0,hK,hi⟩:=mS _ _ _ _ _ hH;rw[hlen]at hK;obtain⟨hpe,hK⟩:=hK;have hi':∀(i:Nat) (o:Oper),i<q->ops[i]? = some o->∃z,wa o (Os i) S z/\Os (i+1)=(Os i).put o.dst z:=by
  intro i o hiq ho;have ho':(ops.toList.take q)[i]? = some o:=by rw[er,if_pos hiq];simpa using ho
  rcases hi i o ho' with⟨t,d,X,h1,h2,h3,h4,h5⟩|⟨_,h5⟩
  ·exfalso;have:(d,X)∈([]:List (Nat×dn))++(cf q).filterMap (fun i=>(al i).bind fun X=>((ops.toList.take q)[i]?).bind fun o=>o.dst.map fun d=>(d,X)):=by
    rw[kN,gT];exact⟨i,by simpa using hiq,by rw[h4,ho'];simp[h2]⟩
   rw[List.isEmpty_iff.1 hpe]at this
   cases this
  ·exact h5
 have step_ne:∀i o t,i<q->ops[i]? = some o->o.dst≠some t->Os (i+1) t=Os i t:=by
  intro i o t hiq ho ht;obtain⟨z,_,h5⟩:=hi' i o hiq ho;rw[h5]
  cases hdo:o.dst with
  | none=>rw[Tm.put_eq]
  | some d=>simp only[Tm.put_eq];rw[if_neg];intro e;exact ht (by rw[hdo,e])
 have stable:∀t k i,i<=k->k<=q->(∀j o,i<=j->j<k->ops[j]? = some o->o.dst≠some t)->Os k t=Os i t:=by
  intro t k
  induction k with
  | zero=>intro i h1 _ _;rw[show i=0 by omega]
  | succ k ih =>
   intro i h1 h2 h3;by_cases e:i=k+1
   ·rw[e]
   ·have hk:k<ops.size:=by have:=D.le;omega
    rw[step_ne k ops[k] t om (aB hk) (h3 k _ om om (aB hk))];exact ih i om om (fun j o hj1 hj2 ho=>h3 j o hj1 om ho)
 have w0s:dz w.drew S:=hr.st.drew;have r0:RT O S N a w.drew:=⟨hr.defers,hr.size,fun t=>a8.grow hr.st.noU (co.drew _ w) _ _ (hr.tm t),w0s⟩;have dstN:∀(i:Nat) (o:Oper) (d:Nat),ops[i]? = some o->o.dst=some d->d<N:=by
  intro i o d ho hdd;have:=az.1 hd o (cq (by simpa using ho:ops.toList[i]? = some o))
  rw[hdd]at this;simpa using this
 have HT:∀listed a' w',ld ops q S (Os q) N w.drew listed a' w'->(∀j,j<q->listed.getD j true=false->∃x d,zI ops q j x d)->q9 ops q K S.dom N w.drew listed a' w':=by
  intro listed a' w' H hall;refine⟨q,Os q,S,ah _,D.le,H.size,fun i hi1 hi2=>?_,fun j hj hjl=>?_,hK,H.defers,H.tsize,w0s.frozen H.gr,fun t ht=>?_,H.gr.any _⟩
  ·rw[H.tailU i hi1 hi2];constructor
   ·intro h;cases h
   ·intro h;omega
  ·obtain⟨x,d,hf⟩:=hall j hj hjl;refine⟨x,d,hf,?_⟩;obtain⟨o,ho,hop,hdst⟩:=hf.op;obtain⟨z,hz,hO⟩:=hi' j o hj ho;have e1:Os q d=z:=by
    rw[stable d q (j+1) om (ah _) (fun i p hi1 hi2 hp hpd=>by
     have:=D.apart j o i p d hj hi2 ho hp hdst hpd;omega),hO,hdst]
    simp[Tm.put_eq]
   have e2:ev (Os j) x=z:=by
    rcases hz with⟨_,hz⟩|hz
    ·unfold vF at hz;rw[hop]at hz;exact hz.1
    ·rw[hop]at hz;exact hz.elim
   rw[e1,<-e2]
   cases x with
   | tmp t =>
    show Os j t=Os q t;rw[stable t q j om (ah _) (fun i p hi1 hi2 hp hpt=>by
     have:=(D.reads j o i p t hj hi2 ho hp hpt (by simp only[jx,hop,Op.operands,gT];exact⟨.tmp t,by simp,rfl⟩)).1
     omega)]
   | const v=>rfl
   | global g=>rfl
   | func f=>rfl
  ·refine H.tm t (fun j o hj ho hot=>?_)
   cases hv:listed.getD j false with
   | true=>rfl
   | false =>
    have hj2:listed.getD j true=false:=by
     have hjs:j<listed.size:=by rw[H.size];exact(bM.1 ho).1
     rw[aF,aB hjs]at hv ⊢;exact hv
    obtain⟨x,d,hf⟩:=hall j hj hj2;obtain⟨o',ho',_,hdst⟩:=hf.op;rw[ho]at ho';cases ho';rw[hot]at hdst;cases hdst;exact absurd ⟨j,x,hj2,hf⟩ ht
 have tailStep:∀listed a' w' i,q9 ops q K S.dom N w.drew listed a' w'->fE ops listed->i∈Region.ready .any ops listed->wpOp Tryz.prog ops Q i (fun a'' w''=>ld ops q S (Os q) N w.drew (listed.setIfInBounds i true) a'' w''∨q9 ops q K S.dom N w.drew (listed.setIfInBounds i true) a'' w'') a' w':=by
  intro listed a' w' i T hcl hi;obtain⟨k,O',S',hk1,hk2,hsz,hl,hfr,hL,hdef,hts,hrs,htm,hG⟩:=T.ex;obtain⟨o,ho,hun,haft⟩:=df hi;have hio:i<ops.size:=(bM.1 ho).1;have hils:i<listed.size:=by omega
  unfold wpOp;simp only[ho];rw[if_pos (by simp[Region.wanted,D.guard i o ho])]
  refine bH ?_;rcases aE i q with hiq|hiq
  ·
   obtain⟨x,d,hf,hOd⟩:=hfr i hiq hun;obtain⟨o',ho',hop,hdst⟩:=hf.op;rw[ho]at ho';cases ho';have hxr:a8 w' S'.dom (ev O' x) (a'.eval x):=by
    cases x with
    | tmp t =>
     refine htm t ?_;rintro⟨j,y,hjl,hfj⟩;obtain⟨oj,hoj,_,hdj⟩:=hfj.op;have:=haft j (D.reads i o j oj t hiq hfj.lt ho hoj hdj (by simp only[jx,hop,Op.operands,gT];exact⟨.tmp t,by simp,rfl⟩)).2
     rw[eK this]at hjl;cases hjl
    | const v=>exact Dw _ _ v
    | global g=>simp only[ev,a8,Nat.mul_zero];rfl
    | func f=>simp only[ev,a8];exact⟨[],rfl,by simp[a6]⟩
   refine eW (v:=a'.eval x) (by simp[execOp,hop]) (bD ⟨k,O',S',hk1,hk2,by simp[hsz],fun j hj1 hj2=>?_,fun j hj1 hj2=>?_,hL,by rw[gH];exact hdef,by rw[iZ];exact hts,hrs,fun t ht=>?_,hG⟩)
   ·rw[cb _ _ _ _ hils,if_neg om];exact hl j hj1 hj2
   ·rw[cb _ _ _ _ hils]at hj2;by_cases e:j=i
    ·rw[if_pos e]at hj2;cases hj2
    ·rw[if_neg e]at hj2;exact hfr j hj1 hj2
   ·rw[hdst];by_cases e:t=d
    ·subst e;rw[put_eq (by rw[hts];exact dstN i o t ho hdst),hOd];exact hxr
    ·rw[iU (by intro e2;cases e2;exact e rfl)]
     refine htm t ?_;rintro⟨j,y,hjl,hfj⟩;refine ht ⟨j,y,?_,hfj⟩;rw[cb _ _ _ _ hils,if_neg]
     ·exact hjl
     ·rintro rfl;obtain⟨oj,hoj,_,hdj⟩:=hfj.op;rw[ho]at hoj;cases hoj;rw[hdst]at hdj;cases hdj;exact e rfl
  ·have hik:i=k:=by
    rcases dJ i k with h1|h1|h1
    ·rw[(hl i hiq hio).2 h1]at hun;cases hun
    ·exact h1
    ·rcases D.tail i o hiq ho k h1 with h2|⟨x,d,h2⟩
     ·have hk3:listed.getD k false=true:=h2.elim (haft k) (eB hcl 12 k i o ho haft);have:=(hl k om om).1 (eK hk3);omega
     ·have:=h2.lt;omega
   subst hik;have hdrop:ops.toList.drop i=o::ops.toList.drop (i+1):=by
    have h1:ops.toList[i]? = some o:=by simpa using ho
    rw[ij (by simpa using hio)]
    congr 1;exact(cG.1 h1).2
   rw[hdrop]at hL;unfold sW at hL;rw[D.guard i o ho]at hL;simp only at hL
   let Om:Tm:=fun t=>if Ly ops q listed t then .any else O' t
   have hRm:RT Om S' N a' w':=⟨hdef,hts,fun t=>by
    simp only[Om];split
    ·simp[a8]
    ·rename_i hc;exact htm t hc,hrs⟩
   have hLm:=pj (O':=Om) (i9 fun t ht=>by
    simp only[Om];rw[if_neg];rintro⟨j,y,hjl,hfj⟩;have:=haft j ((hfj.tail i o hiq ho).2 ht);rw[eK this]at hjl;cases hjl) hL
   refine kg hLm hRm (fun z v w'' S'' hz hv hs hg=>bD ⟨i+1,O'.put o.dst z,S'',by omega,by omega,by simp[hsz],fun j hj1 hj2=>?_,fun j hj1 hj2=>?_,hz,by rw[gH];exact hdef,by rw[iZ];exact hts,hs,fun t ht=>?_,hG.trans hg⟩)
   ·rw[cb _ _ _ _ hils];by_cases e:j=i
    ·rw[if_pos e];simp;omega
    ·rw[if_neg e,hl j hj1 hj2];omega
   ·rw[cb _ _ _ _ hils,if_neg om]at hj2;obtain⟨x,d,hf,hOd⟩:=hfr j hj1 hj2;refine⟨x,d,hf,?_⟩;have hta:=(hf.tail i o hiq ho).1
    cases hdo:o.dst with
    | none=>rw[td];exact hOd
    | some e =>
     obtain⟨t1,t2⟩:=hta e hdo;rw[mK (ak t2),hOd]
     cases x with
     | tmp t=>exact(mK (fun e2=>t1 (by rw[e2]))).symm
     | const v=>rfl
     | global g=>rfl
     | func f=>rfl
   ·have hlate:¬Ly ops q listed t:=by
     rintro⟨j,y,hjl,hfj⟩;refine ht ⟨j,y,?_,hfj⟩;rw[cb _ _ _ _ hils,if_neg]
     ·exact hjl
     ·have:=hfj.lt;omega
    by_cases e:o.dst=some t
    ·rw[e,put_eq (by rw[hts];exact dstN i o t ho e)]
     rw[show(O'.put (some t) z) t=z by simp[Tm.put_eq]];exact hv
    ·rw[iU e];have hold:=a8.grow hrs.noU hg _ _ (htm t hlate)
     cases hdo:o.dst with
     | none=>rw[td];exact hold
     | some e'=>rw[mK (fun e2=>e (by rw[hdo,e2]))];exact hold
 have headStep:∀listed a' w' i,ld ops q S (Os q) N w.drew listed a' w'->fE ops listed->i∈Region.ready .any ops listed->wpOp Tryz.prog ops Q i (fun a'' w''=>ld ops q S (Os q) N w.drew (listed.setIfInBounds i true) a'' w''∨q9 ops q K S.dom N w.drew (listed.setIfInBounds i true) a'' w'') a' w':=by
  intro listed a' w' i H hcl hi;obtain⟨o,ho,hun,haft⟩:=df hi;have hio:i<ops.size:=(bM.1 ho).1;have hils:i<listed.size:=by rw[H.size];exact hio
  rcases aE i q with hiq|hiq
  ·have hset:∀j d,(listed.setIfInBounds i true).getD j d=if j=i then true else listed.getD j d:=fun j d=>cb _ _ _ _ hils
   have hS:dz w' S:=w0s.frozen H.gr;obtain⟨z,hz,hO⟩:=hi' i o hiq ho
   let Oe:Tm:=fun t=>if (∀(j:Nat) (p:Oper),j<q->ops[j]? = some p->p.dst=some t->listed.getD j false=true)then Os q t else .any
   have hRe:RT Oe S N a' w':=⟨H.defers,H.tsize,fun t=>by
    simp only[Oe];split
    ·rename_i hc;exact H.tm t hc
    ·simp[a8],hS⟩
   have hze:wa o Oe S z:=ko (i9 fun t ht=>by
    have hc:∀(j:Nat) (p:Oper),j<q->ops[j]? = some p->p.dst=some t->listed.getD j false=true:=fun j p hj hp hpt =>
     haft j (D.reads i o j p t hiq hj ho hp hpt ht).2
    simp only[Oe];rw[if_pos hc,stable t q i om (ah _) (fun j p hj1 hj2 hp hpt=>by
     have:=(D.reads i o j p t hiq hj2 ho hp hpt ht).1;omega)]) hz
   unfold wpOp;simp only[ho];rw[if_pos (by simp[Region.wanted,D.guard i o ho])]
   refine bH (lw hze hRe (fun v w'' hv hg=>bH ⟨by simp[H.size],fun j hj1 hj2=>?_,by rw[gH];exact H.defers,by rw[iZ];exact H.tsize,H.gr.trans hg,fun t ht=>?_⟩))
   ·rw[hset,if_neg om];exact H.tailU j hj1 hj2
   ·by_cases e:o.dst=some t
    ·rw[e,put_eq (by rw[H.tsize];exact dstN i o t ho e)]
     have:Os q t=z:=by
      rw[stable t q (i+1) om (ah _) (fun j p hj1 hj2 hp hpd=>by
       have:=D.apart i o j p t hiq hj2 ho hp e hpd;omega),hO,e]
      simp[Tm.put_eq]
     rw[this];exact hv
    ·rw[iU e];refine a8.grow hS.noU (hg.any _) _ _ (H.tm t (fun j p hj hp hpt=>?_));have:=ht j p hj hp hpt;rw[hset]at this;by_cases e2:j=i
     ·subst e2;rw[ho]at hp;cases hp;exact absurd hpt e
     ·rw[if_neg e2]at this;exact this
  ·refine tailStep listed a' w' i (HT listed a' w' H (fun j hj hjl=>?_)) hcl hi;rcases D.tail i o hiq ho j om with h1|h1
   ·rw[eK (h1.elim (haft j) (eB hcl 12 j i o ho haft))]at hjl;cases hjl
   ·exact h1
 have first:∀listed,listed.size=ops.size->Region.ready .any ops listed=[]->∀m,m<=ops.size->∀j,j<m->listed.getD j false=true:=by
  intro listed hsz hre m
  induction m with
  | zero=>intro _ j hj;omega
  | succ m ih =>
   intro hm j hj;by_cases e:j<m
   ·exact ih om j e
   ·obtain rfl:j=m:=by omega
    have hjo:j<ops.size:=by omega
    cases hv:listed.getD j false with
    | true=>rfl
    | false =>
     have hj2:listed.getD j true=false:=by
      rw[aF,aB om]at hv ⊢;exact hv
     have:j∈Region.ready .any ops listed:=ot (aB hjo) hj2 (fun k hk=>ih om k (D.back j _ (aB hjo) k hk));rw[hre]at this;cases this
 refine wp_region_any (by kernel_rfl) (iN (fun listed a' w'=>fE ops listed/\(ld ops q S (Os q) N w.drew listed a' w'∨q9 ops q K S.dom N w.drew listed a' w')) ?_ ?_ ops.size _ a w.drew ?_ ⟨fun i o ho h=>?_,bH ?_⟩)
 ·intro listed a' w' i hI hi;obtain⟨hcl,hI⟩:=hI;have hcl':fE ops (listed.setIfInBounds i true):=by
   obtain⟨o,ho,hun,haft⟩:=df hi;have hgo:∀k,listed.getD k false=true->(listed.setIfInBounds i true).getD k false=true:=fun k hk=>by
    rw[aF]at hk ⊢;rw[nR];split
    ·split<;>simp_all
    ·exact hk
   intro j p hp hj k hk;by_cases e:j=i
   ·subst e;rw[ho]at hp;cases hp;exact hgo k (haft k hk)
   ·refine hgo k (hcl j p hp ?_ k hk);rw[aF]at hj ⊢
    rwa [bZ (ak e)]at hj
  have e:(fun a'' w''=>fE ops (listed.setIfInBounds i true)/\(ld ops q S (Os q) N w.drew (listed.setIfInBounds i true) a'' w''∨q9 ops q K S.dom N w.drew (listed.setIfInBounds i true) a'' w''))=fun a'' w''=>(ld ops q S (Os q) N w.drew (listed.setIfInBounds i true) a'' w''∨q9 ops q K S.dom N w.drew (listed.setIfInBounds i true) a'' w''):=by
   funext a'' w'';simp[hcl']
  show wpOp Tryz.prog ops Q i (fun a'' w''=>fE ops (listed.setIfInBounds i true)/\(ld ops q S (Os q) N w.drew (listed.setIfInBounds i true) a'' w''∨q9 ops q K S.dom N w.drew (listed.setIfInBounds i true) a'' w'')) a' w';rw[e];rcases hI with H|T
  ·exact headStep listed a' w' i H hcl hi
  ·exact tailStep listed a' w' i T hcl hi
 ·rintro listed a' w' ⟨_,hI⟩ hre;have fin:q9 ops q K S.dom N w.drew listed a' w'->Q .normal a' w':=by
   intro T;obtain⟨k,O',S',hk1,hk2,hsz,hl,hfr,hL,hdef,hts,hrs,htm,hG⟩:=T.ex;have hall:=first listed hsz hre ops.size (ah _)
   have hk:k=ops.size:=by
    rcases aE k ops.size with h1|h1
    ·have:=(hl k hk1 h1).1 (eK (hall k h1));omega
    ·omega
   rw[hk,fy (by simp)]at hL
   refine hq O' S' a' w' hL ⟨hdef,hts,fun t=>htm t ?_,hrs⟩ ((co.drew S.dom w).trans hG);rintro⟨j,y,hjl,hfj⟩;rw[eK (hall j (by have:=hfj.lt;have:=D.le;omega))]at hjl;cases hjl
  rcases hI with H|T
  ·refine fin (HT listed a' w' H (fun j hj hjl=>?_));rw[eK (first listed H.size hre ops.size (ah _) j (by have:=D.le;omega))]at hjl;cases hjl
  ·exact fin T
 ·simp only[Ia];exact bW mc (by simp)
 ·rw[mJ]at h;cases h
 ·refine⟨by simp,fun i _ hi2=>yD hi2,hr.defers,hr.size,co.refl _ _,fun t ht=>?_⟩
  have hno:∀(j:Nat) (o:Oper),j<q->ops[j]? = some o->o.dst≠some t:=by
   intro j o hj ho hdt;have:=ht j o hj ho hdt;rw[mJ]at this;cases this
  rw[stable t q 0 om (ah _) (fun j o _ hj ho=>hno j o hj ho),e0];exact r0.tm t
end Go.Proofs.YtdobfmlmenaajaaGreatDoor
