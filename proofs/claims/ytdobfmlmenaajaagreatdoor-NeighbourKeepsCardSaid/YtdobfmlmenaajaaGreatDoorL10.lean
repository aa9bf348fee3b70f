/-
  Lemmas for NeighbourKeeps.
-/
import Derived.Test.YtdobfmlmenaajaaGreatDoorL09
namespace Go.Proofs.YtdobfmlmenaajaaGreatDoor
open Go.RowKit Tryz
open _root_.Array renaming getElem?_eq_getElem→aC,getD_eq_getD_getElem?→aD,getElem?_eq_some_iff→ci,getElem?_setIfInBounds_ne→ct,ext'→gI,replicate→jd
open Below renaming heap_alloc→nU
open _root_.Bool renaming and_eq_true→bL,false_eq_true→bQ,or_eq_true→fL,not_eq_true'→io
open _root_.List renaming all_eq_true→ap,replicate→bV,length_cons→cw,mem_of_getElem?→cR,getElem?_cons_zero→dE,range→dY,mem_cons_of_mem→eA,getElem?_take→eW,mem_map→fK,mem_cons_self→fP,map_cons→gV,mem_filterMap→iO,mem_range→jH,mem_filter→pj,map_congr_left→pw
open _root_.Nat renaming le_refl→af,lt_or_ge→az
open _root_.Option renaming none→ae,map_some→dL,bind_some→dM,map_eq_some_iff→eC,getD_some→iJ
open _root_.Or renaming inr→aK,inl→bn
open Region renaming ready→cQ,wanted→eH
open Tryz renaming prog→ah
set_option maxHeartbeats 6400000
set_option maxRecDepth 4096
set_option linter.all false
variable{z:AV}{K:AV->St->Prop}{a:Act}{listed:Array Bool}{ops:Array Oper}{Q:Exit->Act->World->Prop}{l:List Oper}{N i q:Nat}{o:Oper}{d:Option Nat}{S:St}{O O':Tm}{t:TypeId}{v:Value}{w w':World}{X:dH}
def EL(ops:Array Oper)(O:Tm)(j:Nat):AV:=match (ops[j]?).bind (·.dst)with
 | some d=>O d
 | ae=>.any
def Bp(ops:Array Oper):List Oper->Tm->St->(Tm->St->Prop)->Prop
 | [],O,S,K=>K O S
 | o::l,O,S,K=>(match o.guard with
  | ae=>Bw o O S (fun z S'=>Bp ops l (O.put o.dst z) S' K)
  | some (j,want)=>(match EL ops O j with
   | .bool b=>(b=want->Bw o O S (fun z S'=>Bp ops l (O.put o.dst z) S' K))/\(b=!want->Bp ops l (O.put o.dst .any) S K)
   | _=>False))
def ri(N:Nat)(l:List Oper):Bool:=l.all fun o=>match o.dst with
 | some d=>decide (d<N)
 | ae=>true
theorem D5(h:ri N (o::l)=true):(∀k,o.dst=some k->k<N)/\ri N l=true:=by
 simp only[ri,List.all_cons,bL]at h;refine⟨fun k b=>?_,h.2⟩;have a:=h.1;rw[b]at a;simpa using a
theorem zh(g:RT O S N a w){j:Nat}{b:Bool}(h:EL ops O j=.bool b):yielded ops a.tmps j=some b:=by
 unfold EL at h
 cases e:(ops[j]?).bind (·.dst)with
 | none=>rw[e]at h;cases h
 | some d =>
  rw[e]at h;have c:=g.tm d;simp only at h;rw[h]at c;simp only[bB]at c;unfold yielded;rw[e];simp only[dM]
  cases f:a.tmps[d]? with
  | none=>simp[aD,f,undef]at c
  | some v =>
   have:v=.bool b:=by simpa [aD,f]using c
   subst this;rfl
theorem tZ{ops:Array Oper}{N:Nat}{Q:Exit->Act->World->Prop}{K:Tm->St->Prop}:∀(l:List Oper) {O:Tm} {S:St} {a:Act} {w:World},Bp ops l O S K->RT O S N a w->ri N l=true ->
  (∀O' S' a' w',K O' S'->RT O' S' N a' w'->cG S.dom S'.dom w w'->Q .normal a' w')->wpList ah ops Q l a w
 | [],O,S,a,w,h,d,_,i=>i O S a w h d (cG.refl _ _)
 | o::l,O,S,a,w,h,d,r,i=>by
  obtain⟨e,f⟩:=D5 r;have run:Bw o O S (fun z S'=>Bp ops l (O.put o.dst z) S' K)->o.wp ah a w (wpList ah ops Q l) Q:=fun s =>
   lD s d (fun z v w' S' t u x n=>tZ l t (d.put n x e u) f (fun O' S'' a' w'' y A B=>i O' S'' a' w'' y A (n.trans B)))
  unfold Bp at h;unfold wpList
  cases c:o.guard with
  | none =>
   rw[c]at h;rw[if_pos (by simp[eH,c])]
   exact bn (run h)
  | some p =>
   obtain⟨j,want⟩:=p;rw[c]at h;simp only at h
   cases q:EL ops O j<;>rw[q]at h<;>try exact h.elim
   rename_i b;have g:=zh d q;by_cases k:b=want
   ·rw[if_pos (by simp[eH,c,g,k])]
    exact bn (run (h.1 k))
   ·rw[if_neg (by simp[eH,c,g,k])]
    have m:b=!want:=by cases b<;>cases want<;>simp_all
    exact tZ l (h.2 m) (d.put (cG.refl _ _) d.st e (by simp[bB])) f i
theorem qV(a:∀x,x∈o.op.operands.toList->ev O x=ev O' x)(h:Bw o O S K):Bw o O' S K:=by
 have j:∀l:List Operand,(∀x∈l,ev O x=ev O' x)->l.map (ev O)=l.map (ev O'):=fun l v=>pw v;unfold Bw at h ⊢;split at h
 ·rename_i x b;rw[b]at a;simp only[Op.operands]at a;rw[<-a x sm];exact h
 ·rename_i x b;rw[b]at a;simp only[Op.operands]at a;rw[<-a x sm];exact h
 ·rename_i c x y b;rw[b]at a;simp only[Op.operands]at a;rw[<-a c sm,<-a x sm,<-a y sm];exact h
 ·rename_i t b;exact h
 ·rename_i t x b;rw[b]at a;simp only[Op.operands]at a;rw[<-a x sm];exact h
 ·rename_i t ps b;rw[b]at a;simp only[Op.operands]at a;have:(ps.toList.map fun p=>(p.1,ev O p.2))=ps.toList.map fun p=>(p.1,ev O' p.2):=pw fun p q=>by rw[a p.2 (by simp;exact⟨p.1,by simpa using q⟩)]
  rw[<-this];exact h
 ·rename_i t n ps b;rw[b]at a;simp only[Op.operands]at a;have:(ps.toList.map fun p=>(p.1,ev O p.2))=ps.toList.map fun p=>(p.1,ev O' p.2):=pw fun p q=>by rw[a p.2 (by simp;exact⟨p.1,by simpa using q⟩)]
  rw[<-this];exact h
 ·rename_i t x b;rw[b]at a;simp only[Op.operands]at a;rw[<-a x sm];exact h
 ·rename_i t x y b;rw[b]at a;simp only[Op.operands]at a;rw[<-a x sm,<-a y sm];exact h
 ·rename_i x b;rw[b]at a;simp only[Op.operands]at a;rw[<-a x sm];exact h
 ·rename_i op t x y _ b;rw[b]at a;simp only[Op.operands]at a;rw[<-a x sm,<-a y sm];exact h
 ·rename_i op t x b;rw[b]at a;simp only[Op.operands]at a;rw[<-a x sm];exact h
 ·rename_i s d x b;rw[b]at a;simp only[Op.operands]at a;rw[<-a x sm];exact h
 ·rename_i f fi cs b;rw[b]at a;simp only[Op.operands]at a;rw[<-j cs.toList (fun x e=>a x (by simp;exact aK (by simpa using e))),<-j fi.toList (fun x e=>a x (by simp;exact bn (by simpa using e)))];exact h
 ·rename_i t x y b;rw[b]at a;simp only[Op.operands]at a;rw[<-a x sm,<-a y sm];exact h
 ·rename_i t x lo w mx b;rw[b]at a;simp only[Op.operands]at a;have k:∀y:Option Operand,(∀z,y=some z->ev O z=ev O' z)->y.map (ev O)=y.map (ev O'):=fun y A=>by cases y<;>simp[A]
  rw[<-a x sm,<-k lo (fun z m=>a z (by subst m;simp)),<-k w (fun z m=>a z (by subst m;simp)),<-k mx (fun z m=>a z (by subst m;simp))];exact h
 ·rename_i t x f b;rw[b]at a;simp only[Op.operands]at a;rw[<-a x sm];exact h
 ·rename_i t x i b;rw[b]at a;simp only[Op.operands]at a;rw[<-a x sm,<-a i sm];exact h
 ·rename_i t x i b;rw[b]at a;simp only[Op.operands]at a;rw[<-a x sm,<-a i sm];exact h
 ·rename_i x i b;rw[b]at a;simp only[Op.operands]at a;rw[<-a x sm];exact h
 ·rename_i c b;rw[b]at a;simp only[Op.operands,Call.operands]at a;have g:∀x∈c.args.toList,ev O x=ev O' x:=fun x e=>a x (by simp;exact aK (by simpa using e))
  unfold uT at h ⊢;split at h
  ·rename_i f B;rw[B]at a;simp only at a;rw[<-a f sm,<-j _ g];exact h
  ·rename_i r;split at h
   ·rename_i x t e u;rw[<-g x (by rw[e];simp)];exact h
   ·exact h.elim
  ·rename_i r;split at h
   ·rename_i x y e;rw[<-g x (by rw[e];simp),<-g y (by rw[e];simp)];exact h
   ·exact h.elim
  ·rename_i r;split at h
   ·rename_i s x t t' e u;rw[<-g x (by rw[e];simp),<-g s (by rw[e];simp)];exact h
   ·exact h.elim
  ·rename_i r;split at h
   ·rename_i s x t t' e u;rw[<-g x (by rw[e];simp),<-g s (by rw[e];simp)];exact h
   ·exact h.elim
  ·exact h.elim
 ·exact h.elim

def lB:TypeId->Option dH
 | 50=>some ⟨50,2,1,fun _=>.big 0⟩
 | 52=>some ⟨52,1,1,fun _=>.nil⟩
 | 167=>some ⟨167,2,2,fun _=>.big 0⟩
 | 218=>some ⟨218,1,2,fun j=>if j=0 then .nil else .int .i64 0⟩
 | _=>ae
theorem zV(h:lB t=some X):∃zc:Array Value,X.ty=t/\(∀w,(Instr.alloc t true (.tuple #[])).run ah w=.ok (.pointer (some ⟨w.heap.size,0,ae⟩)) (w.alloc (.cells zc t))) /\
  X.es*X.n<=zc.size/\(∀w M j,j<X.n->∃u,reads zc (X.es*j) X.es u/\bB w M (X.g j) u)/\∀(k:Nat) (y:Value),zc[k]? = some y->li y:=by
 have key:∀(z':Value) (s b:Nat),lN ah t=some (z',s,b)->∃i,ah.info? t=some i/\i.zero=some z':=by
  intro z' s b e;unfold lN at e
  cases f:ah.info? t with
  | none=>rw[f]at e;simp at e
  | some i =>
   rw[f]at e;simp only[dM,eC,Prod.mk.injEq]at e;obtain⟨z2,m,o,G,H⟩:=e;exact⟨i,rfl,by rw[m,o]⟩
 have fin:∀(l:List AV) (vs:List Value) (z:Value) (s b:Nat),lN ah t=some (z,s,b)->z.cells=(vs.flatMap (fun u=>u.cells.toList)).toArray->(∀w M,a6 w M l vs)->(∀y∈l,dN X.es y)->X.ty=t->X.n=l.length->(∀j,j<l.length->X.g j=l.getD j .any) ->
   ∃zc:Array Value,X.ty=t/\(∀w,(Instr.alloc t true (.tuple #[])).run ah w=.ok (.pointer (some ⟨w.heap.size,0,ae⟩)) (w.alloc (.cells zc t))) /\
   X.es*X.n<=zc.size/\(∀w M j,j<X.n->∃u,reads zc (X.es*j) X.es u/\bB w M (X.g j) u)/\∀(k:Nat) (y:Value),zc[k]? = some y->li y:=by
  intro l vs z s b A p r d B x C;obtain⟨i,f,v⟩:=key z s b A;refine⟨z.cells,B,fun w=>zC f v w,?_,fun w M j a=>?_,fun k y c=>?_⟩
  ·obtain⟨_,D,_,_⟩:=gX l vs (r default (fun _=>False)) d;rw[p,List.size_toArray,D,x];exact af _
  ·obtain⟨_,_,_,E⟩:=gX l vs (r w M) d;rw[x]at a;obtain⟨u,m,o⟩:=E j a;refine⟨u,?_,by rw[C j a];exact m⟩
   have:=o z.cells 0 (fun q _=>by rw[p];simp)
   simpa using this
  ·obtain⟨_,_,F,_⟩:=gX l vs (r default (fun _=>False)) d;rw[p,List.getElem?_toArray]at c;exact(F y (cR c)).2
 have zb:∀w M,bB w M (.big 0) (.agg #[.bool false,.slice ae 0 0]):=fun w M=>by simp only[bB];exact ed.zero w
 unfold lB at h;split at h
 ·cases h
  exact fin [.big 0] [.agg #[.bool false,.slice ae 0 0]] (.agg #[.bool false,.slice ae 0 0]) 2 32 kr rfl (fun w M=>by simp only[a6];exact⟨zb w M,trivial⟩) (fun y c=>by simp at c;subst c;simp[dN]) rfl rfl (fun j a=>by simp at a;subst a;rfl)
 ·cases h
  exact fin [.nil] [.slice ae 0 0] (.slice ae 0 0) 1 24 kr rfl (fun w M=>by simp[a6,bB]) (fun y c=>by simp at c;subst c;simp[dN]) rfl rfl (fun j a=>by simp at a;subst a;rfl)
 ·cases h
  exact fin (bV 2 (.big 0)) (bV 2 (.agg #[.bool false,.slice ae 0 0])) (.agg #[.bool false,.slice ae 0 0,.bool false,.slice ae 0 0]) 4 64 kr rfl (fun w M=>jG (zb w M) 2) (fun y c=>by rw[List.eq_of_mem_replicate c];simp[dN]) rfl rfl
   (fun j a=>(xz (by rw[List.length_replicate]at a;exact a) _ _).symm)
 ·cases h
  exact fin [.nil,.int .i64 0] [.slice ae 0 0,.int .i64 0] (.agg #[.slice ae 0 0,.int .i64 0]) 2 32 kr rfl (fun w M=>by simp[a6,bB]) (fun y c=>by simp at c;rcases c with rfl|rfl<;>simp[dN]) rfl rfl
   (fun j a=>by match j with
    | 0=>rfl
    | 1=>rfl
    | j+2=>exact absurd a (by simp only[cw,List.length_nil];omega))
 ·cases h
mutual
def qN:AV->Bool
 | .int ..=>true
 | .bool _=>true
 | .big _=>true
 | .nil=>true
 | .sl ..=>true
 | .ptr ..=>true
 | .mag _=>true
 | .fp ..=>true
 | .bset _=>true
 | .any=>true
 | .nfn=>true
 | .mfn _ l=>Cq l
 | .tup l=>Cq l
 | .agg l=>Cq l
 | .fn _ l=>Cq l
 | .lst ..=>false
 | .pat ..=>false
def Cq:List AV->Bool
 | []=>true
 | x::l=>qN x&&Cq l
end
mutual
theorem qM{w:World}{M M':Nat->Prop}:∀{x:AV} {v:Value},qN x=true->bB w M x v->bB w M' x v
 | .int ..,v,_,a=>by simpa [bB]using a
 | .bool _,v,_,a=>by simpa [bB]using a
 | .big _,v,_,a=>by simpa [bB]using a
 | .nil,v,_,a=>by simpa [bB]using a
 | .sl ..,v,_,a=>by simpa [bB]using a
 | .ptr ..,v,_,a=>by simpa [bB]using a
 | .mag _,v,_,a=>by simpa [bB]using a
 | .fp ..,v,_,a=>by simpa [bB]using a
 | .bset _,v,_,a=>by simpa [bB]using a
 | .any,v,_,a=>by simp[bB]
 | .nfn,v,_,a=>by simpa [bB]using a
 | .mfn f l,v,h,a=>by
  simp only[qN]at h;simp only[bB]at a ⊢;obtain⟨vs,b,c⟩:=a;exact⟨vs,b,pO h c⟩
 | .tup l,v,h,a=>by
  simp only[qN]at h;simp only[bB]at a ⊢;obtain⟨vs,b,c⟩:=a;exact⟨vs,b,pO h c⟩
 | .agg l,v,h,a=>by
  simp only[qN]at h;simp only[bB]at a ⊢;obtain⟨vs,b,c⟩:=a;exact⟨vs,b,pO h c⟩
 | .fn f l,v,h,a=>by
  simp only[qN]at h;simp only[bB]at a ⊢;obtain⟨vs,b,c⟩:=a;exact⟨vs,b,pO h c⟩
 | .lst ..,v,h,_=>by simp[qN]at h
 | .pat ..,v,h,_=>by simp[qN]at h
theorem pO{w:World}{M M':Nat->Prop}:∀{l:List AV} {vs:List Value},Cq l=true->a6 w M l vs->a6 w M' l vs
 | [],[],_,_=>by simp[a6]
 | x::l,v::vs,h,a=>by
  simp only[Cq,bL]at h;simp only[a6]at a ⊢;exact⟨qM h.1 a.1,pO h.2 a.2⟩
 | [],_::_,_,a=>by simp[a6]at a
 | _::_,[],_,a=>by simp[a6]at a
end
def qu:Nat->Prop:=fun _=>False
def Ci:Op->Bool
 | .move _=>true
 | .assign _=>true
 | .pick ..=>true
 | .build ..=>true
 | .load ..=>true
 | .nilCheck _=>true
 | .binOp ..=>true
 | .unOp ..=>true
 | .convert ..=>true
 | .makeFunc ..=>true
 | .slice ..=>true
 | .fieldAddr ..=>true
 | .indexAddr ..=>true
 | .extract ..=>true
 | .call { callee:=.builtin .len,.. }=>true
 | _=>false
def tg(f:Nat)(args:List AV)(S:St)(z:AV):Prop :=
 ∀(w:World) (vs:List Value),dX w S->a6 w S.dom args vs->Calls ah f vs.toArray w (fun e w'=>∃v,e=.returned v/\bB w' S.dom z v/\cG qu qu w w')
def yA(o:Oper)(O:Tm)(S:St)(z:AV):Prop:=(Ci o.op=true/\Bw o O S (fun z' S'=>z'=z/\S'=S)) ∨
 (match o.op with
 | .call c=>(match c.callee with
  | .value f=>(match ev O f with
   | .fn f l=>((11<=f/\f<270)/\f≠252/\f≠253)/\tg f (c.args.toList.map (ev O)++l) S z
   | _=>False)
  | _=>False)
 | .buildSlice t n ps=>et t n (ps.toList.map fun p=>(p.1,ev O p.2)) z
 | _=>False)
theorem I6(j:Ci o.op=true){O:Tm}{S:St}{K:AV->St->Prop}(h:Bw o O S K){N:Nat}{a:Act}{w:World}(g:RT O S N a w) :
  ∃z v,K z S/\bB w S.dom z v/\(execOp a.eval o).run ah w=.ok (.value v) w:=by
 have pure_:∀(s:Sem Value),(execOp a.eval o=do let x <-s;pure (.value x))->(∃z u,K z S/\bB w S.dom z u/\s.run ah w=.ok u w)->∃z v,K z S/\bB w S.dom z v/\(execOp a.eval o).run ah w=.ok (.value v) w:=by
  intro s J ⟨z,u,r,A,C⟩;exact⟨z,u,r,A,by rw[J];simp[C]⟩
 unfold Bw at h;split at h
 ·rename_i x e;exact⟨_,_,h,g.ev x,by simp[execOp,e]⟩
 ·rename_i x e;exact⟨_,_,h,g.ev x,by simp[execOp,e]⟩
 ·rename_i c x y e;have B:=g.ev c
  cases D:ev O c<;>rw[D]at h B<;>try exact h.elim
  rename_i t;simp only[bB]at B;refine⟨_,if t then a.eval x else a.eval y,h,?_,by simp[execOp,e,B,asBool]⟩
  cases t
  ·exact g.ev y
  ·exact g.ev x
 ·rename_i t e;rw[e]at j;simp[Ci]at j
 ·rename_i t x e;rw[e]at j;simp[Ci]at j
 ·rename_i t ps e;obtain⟨z,u,r,A,C⟩:=tb h (qt g ps.toList);exact⟨z,u,r,A,by rw[xD e,C];rfl⟩
 ·rename_i t n ps e;rw[e]at j;simp[Ci]at j
 ·rename_i t x e;exact pure_ (Instr.loadAt t (a.eval x)) (by simp[execOp,e]) (qm h g.st (g.ev x))
 ·rename_i t x y e;rw[e]at j;simp[Ci]at j
 ·rename_i x e;have k:=g.ev x
  cases p:ev O x<;>rw[p]at h k<;>try exact h.elim
  ·have q:=k;simp only[bB]at k;exact⟨_,a.eval x,h,q,by simp[execOp,e,k]⟩
  ·have q:=k;simp only[bB]at k;obtain⟨b,off,u,k,_⟩:=k;exact⟨_,a.eval x,h,q,by simp[execOp,e,k]⟩
 ·rename_i op t x y _ e;have:=yd (ty:=t) h (g.ev x) (g.ev y) x y;exact pure_ (do eqGuard op t x y (a.eval x) (a.eval y);binOp op t (a.eval x) (a.eval y)) (by simp[execOp,e]) this
 ·rename_i op t x e;exact pure_ (Op.unary op (a.eval x)) (by simp[execOp,e]) (zW h (g.ev x))
 ·rename_i s d x e;exact pure_ (convert s d (a.eval x)) (by simp[execOp,e]) (uS h (g.ev x))
 ·rename_i f fi cs e;obtain⟨z,r,A⟩:=sY h g;exact⟨_,.func (.func f) (fi.map a.eval) (cs.map a.eval),r,A,by simp[execOp,e,Instr.makeFunc]⟩
 ·rename_i t x y e;rw[e]at j;simp[Ci]at j
 ·rename_i t x lo I mx e;exact pure_ (Instr.sliceAt t (a.eval x) (lo.map a.eval) (I.map a.eval) (mx.map a.eval)) (by simp[execOp,e]) (sX h (g.ev x) (oE g lo) (oE g I) (oE g mx))
 ·rename_i t x f e;exact pure_ (Instr.fieldAt t (a.eval x) f) (by simp[execOp,e]) (ta h (g.ev x))
 ·rename_i t x i e;exact pure_ (Instr.indexAt t (a.eval x) (a.eval i)) (by simp[execOp,e]) (sZ h (g.ev x) (g.ev i))
 ·rename_i t x i e;rw[e]at j;simp[Ci]at j
 ·rename_i x i e;have k:=g.ev x
  cases p:ev O x<;>rw[p]at h k<;>try exact h.elim
  rename_i l;simp only at h
  cases E:l[i]? with
  | none=>rw[E]at h;exact h.elim
  | some z =>
   rw[E]at h;simp only[bB]at k;obtain⟨vs,k,F⟩:=k;obtain⟨v,L,M⟩:=tf l vs F i z E;exact⟨_,v,h,M,by simp[execOp,e,Instr.extract,k,L]⟩
 ·rename_i c e;unfold uT at h;split at h
  ·rename_i f m;obtain⟨ce,ar,at_⟩:=c;simp only at m;subst m;rw[e]at j;simp[Ci]at j
  ·rename_i B;split at h
   ·rename_i x t k P;have G:c.args=#[x]:=by apply gI;simpa using k
    have H:c.argTypes=#[t]:=by apply gI;simpa using P
    exact pure_ (Builtin.len_ #[t] o.type #[a.eval x]) (by simp[execOp,e,resolve,B,invoke,builtin,G,H]) (ya h (g.ev x))
   ·exact h.elim
  ·rename_i m;obtain⟨ce,ar,at_⟩:=c;simp only at m;subst m;rw[e]at j;simp[Ci]at j
  ·rename_i m;obtain⟨ce,ar,at_⟩:=c;simp only at m;subst m;rw[e]at j;simp[Ci]at j
  ·rename_i m;obtain⟨ce,ar,at_⟩:=c;simp only at m;subst m;rw[e]at j;simp[Ci]at j
  ·exact h.elim
 ·exact h.elim
theorem mI(h:yA o O S z){N:Nat}{a:Act}{w:World}(d:RT O S N a w){next:Act->World->Prop}{Q:Exit->Act->World->Prop}
  (k:∀v w',bB w' S.dom z v->cG qu qu w w'->next (a.put o.dst v) w'):o.wp ah a w next Q:=by
 rcases h with⟨y,h⟩|h
 ·obtain⟨z',v,⟨rfl,_⟩,i,m⟩:=I6 y h d;exact fJ m (k v w i (cG.refl _ _))
 ·split at h
  ·rename_i c p;split at h
   ·rename_i f A;have b:=d.ev f
    cases q:ev O f<;>rw[q]at h b<;>try exact h.elim
    rename_i g l;simp only[bB]at b;obtain⟨vs,r,s⟩:=b;obtain⟨B,u⟩:=h;have j:(execOp a.eval o).run ah w=.ok (.enter g (c.args.map a.eval++vs.toArray)) w:=by
     simp[execOp,p,resolve,A,Deferred.ofValue,r,invoke,Ix B]
    unfold Oper.wp;rw[j];have hargs:(c.args.map a.eval++vs.toArray)=(c.args.toList.map a.eval++vs).toArray:=by apply gI;simp
    rw[hargs];refine(u w _ d.st (np _ _ _ _ (oF d _) s)).mono ?_;rintro e w' ⟨v,rfl,x,i⟩;exact k v w' x i
   ·exact h.elim
  ·rename_i t n ps p;obtain⟨v,w',x,i,m⟩:=sF h d.st (qt d ps.toList);exact fJ (by rw[pr p,x];rfl) (k v w' i m)
  ·exact h.elim
theorem lG(a:∀x,x∈o.op.operands.toList->ev O x=ev O' x)(h:yA o O S z):yA o O' S z:=by
 rcases h with⟨e,h⟩|h
 ·exact bn ⟨e,qV a h⟩
 ·refine aK ?_;split at h
  ·rename_i c b;rw[b]at a;simp only[Op.operands,Call.operands]at a;split at h
   ·rename_i f g;rw[g]at a;simp only at a;have d:c.args.toList.map (ev O)=c.args.toList.map (ev O'):=pw fun x i=>a x (by simp;exact aK (by simpa using i))
    rw[<-a f sm,<-d];exact h
   ·exact h.elim
  ·rename_i t n ps b;rw[b]at a;have d:(ps.toList.map fun p=>(p.1,ev O p.2))=ps.toList.map fun p=>(p.1,ev O' p.2):=pw fun p j=>by
    rw[a p.2 (by simp only[Op.operands];simp;exact⟨p.1,by simpa using j⟩)]
   rw[<-d];exact h
  ·exact h.elim
def Br:List Oper->Tm->St->List (Nat×dH)->(Tm->List (Nat×dH)->Prop)->Prop
 | [],O,_,pend,K=>K O pend
 | o::l,O,S,pend,K=>(match o.op,o.dst with
  | .alloc t,some d=>(match lB t with
   | some X=>Br l (O.put (some d) .any) S (pend++[(d,X)]) K
   | ae=>False)
  | _,_=>∃z,yA o O S z/\Br l (O.put o.dst z) S pend K)
def mS:List (Nat×dH)->Tm->St->(Tm->St->Prop)->Prop
 | [],O,S,K=>K O S
 | (d,X)::r,O,S,K=>∀b,S b=ae->mS r (O.put (some d) (.ptr X.es b 0)) (S.upd b X) K
def sM(ds:List Nat)(O:Tm):Tm:=fun t=>if ds.contains t&&!qN (O t)then .any else O t
def lL(l:List Oper):List Nat:=l.filterMap (·.dst)
def kG(o:Oper):List Nat:=o.op.operands.toList.filterMap fun
 | .tmp t=>some t
 | _=>ae
def py(o:Oper):List Nat:=(o.after.toList.filter (Region.binds .any)).map (·.on)
def po(ops:Array Oper):Nat->Nat->Nat->Bool
 | 0,_,_=>false
 | f+1,j,i=>(match ops[i]? with
  | some o=>(py o).contains j||(py o).any (fun k=>Nat.ble j k&&po ops f j k)
  | ae=>false)
def xG(ops:Array Oper)(q:Nat):Bool :=
 let l:=ops.toList
 l.all (fun o=>o.guard.isNone) &&
 l.zipIdx.all (fun p=>(py p.1).all (fun k=>decide (k<p.2))) &&
 (l.take q).zipIdx.all (fun p=>(l.take q).zipIdx.all (fun r=>match r.1.dst with
  | some t=>!(kG p.1).contains t||(decide (r.2<p.2)&&(py p.1).contains r.2)
  | ae=>true)) &&
 (l.take q).zipIdx.all (fun p=>(l.take q).zipIdx.all (fun r=>decide (p.2=r.2)||p.1.dst.isNone||p.1.dst != r.1.dst)) &&
 (l.zipIdx.drop q).all (fun p=>(dY p.2).all (fun j=>(py p.1).contains j||po ops 12 j p.2)) &&
 decide (q<=l.length)
def awD(ops:Array Oper)(O:Tm)(S:St)(K:Tm->St->Prop):Prop:=∃q,xG ops q=true /\
 Br (ops.toList.take q) O S [] (fun O' pend=>if pend.isEmpty then Bp ops (ops.toList.drop q) O' S K else
  mS pend (sM (lL (ops.toList.take q)) O') S (fun O S=>Bp ops (ops.toList.drop q) O S K))
theorem oA:∀(l:List Oper) (O:Tm) (S:St) (pend:List (Nat×dH)) (K:Tm->List (Nat×dH)->Prop),Br l O S pend K ->
  ∃(Os:Nat->Tm) (al:Nat->Option dH),Os 0=O/\K (Os l.length) (pend++(dY l.length).filterMap (fun i=>(al i).bind fun X=>(l[i]?).bind fun o=>o.dst.map fun d=>(d,X))) /\
   ∀i o,l[i]? = some o->(∃t d X,o.op=.alloc t/\o.dst=some d/\lB t=some X/\al i=some X/\Os (i+1)=(Os i).put (some d) .any) ∨
    (al i=ae/\∃z,yA o (Os i) S z/\Os (i+1)=(Os i).put o.dst z)
 | [],O,S,pend,K,h=>⟨fun _=>O,fun _=>ae,rfl,by simpa [Br]using h,fun i o c=>by simp at c⟩
 | o::l,O,S,pend,K,h=>by
  have glue:∀(x:Option dH) (O1:Tm) (pend1:List (Nat×dH)),(pend1=pend++(x.bind fun X=>o.dst.map fun d=>(d,X)).toList)->Br l O1 S pend1 K ->
    ((∃t d X,o.op=.alloc t/\o.dst=some d/\lB t=some X/\x=some X/\O1=O.put (some d) .any)∨(x=ae/\∃z,yA o O S z/\O1=O.put o.dst z)) ->
    ∃(Os:Nat->Tm) (al:Nat->Option dH),Os 0=O/\K (Os (o::l).length) (pend++(dY (o::l).length).filterMap (fun i=>(al i).bind fun X=>((o::l)[i]?).bind fun o=>o.dst.map fun d=>(d,X))) /\
     ∀i o',(o::l)[i]? = some o'->(∃t d X,o'.op=.alloc t/\o'.dst=some d/\lB t=some X/\al i=some X/\Os (i+1)=(Os i).put (some d) .any) ∨
      (al i=ae/\∃z,yA o' (Os i) S z/\Os (i+1)=(Os i).put o'.dst z):=by
   intro x O1 pend1 k e m;obtain⟨Os,al,n,b,p⟩:=oA l O1 S pend1 K e;refine⟨fun i=>match i with|0=>O|i+1=>Os i,fun i=>match i with|0=>x|i+1=>al i,rfl,?_,fun i o' c=>?_⟩
   ·simp only[cw];rw[k]at b;rw[List.range_succ_eq_map,List.filterMap_cons,List.filterMap_map];have q:(fun i=>((al i).bind fun X=>(l[i]?).bind fun o=>o.dst.map fun d=>(d,X)))=((fun i=>(match i with|0=>x|i+1=>al i:Option dH).bind fun X=>((o::l)[i]?).bind fun o=>o.dst.map fun d=>(d,X))∘Nat.succ):=by
     funext i;simp
    rw[<-q]
    cases a:(x.bind fun X=>o.dst.map fun d=>(d,X))with
    | none=>rw[a]at b;simp only[Option.toList_none,List.append_nil]at b;simp only[dE,dM];rw[a];exact b
    | some y=>rw[a]at b;simp only[Option.toList_some,List.append_assoc,List.singleton_append]at b;simp only[dE,dM];rw[a];exact b
   ·cases i with
    | zero =>
     simp at c;subst c;simp only[n];exact m
    | succ i =>
     simp only[List.getElem?_cons_succ]at c;exact p i o' c
  unfold Br at h;split at h
  ·rename_i t d f j
   cases g:lB t with
   | none=>rw[g]at h;exact h.elim
   | some X =>
    rw[g]at h;exact glue (some X) _ _ (by rw[j];rfl) h (bn ⟨t,d,X,f,j,g,rfl,rfl⟩)
  ·obtain⟨z,r,e⟩:=h;exact glue ae _ _ sm e (aK ⟨rfl,z,r,rfl⟩)

theorem dG(h:i∈cQ .any ops listed):∃o,ops[i]? = some o/\listed.getD i true=false/\∀k∈py o,listed.getD k false=true:=by
 simp only[cQ,pj,jH,bL,io]at h;obtain⟨d,f,a⟩:=h;have b:ops[i]? = some ops[i]:=aC d;rw[b]at a;refine⟨ops[i],b,f,fun k c=>?_⟩;simp only[dL,iJ]at a;simp only[py,fK,pj]at c;obtain⟨e,⟨g,j⟩,rfl⟩:=c;have:=(Array.all_eq_true_iff_forall_mem.1 a) e (by simpa using g)
 simpa [j]using this
theorem pJ(a:ops[i]? = some o)(c:listed.getD i true=false)(d:∀k∈py o,listed.getD k false=true):i∈cQ .any ops listed:=by
 have f:i<ops.size:=(ci.1 a).1;simp only[cQ,pj,jH,bL,io];refine⟨f,c,?_⟩;rw[a];simp only[dL,iJ];refine Array.all_eq_true_iff_forall_mem.2 fun e g=>?_;by_cases b:Region.binds .any e=true
 ·have:=d e.on (by simp only[py,fK,pj];exact⟨e,⟨by simpa using g,b⟩,rfl⟩)
  rw[this];simp
 ·simp[b]
def JA(listed:Array Bool):Nat:=listed.toList.countP (·==false)
theorem EO(h:listed.getD i true=false):JA (listed.setIfInBounds i true)+1=JA listed:=by
 have a:i<listed.size:=by
  rcases az i listed.size with b|b
  ·exact b
  ·rw[aD,Array.getElem?_eq_none b]at h;cases h
 have c:listed.toList[i]'(by simpa using a)=false:=by
  rw[aD,aC a]at h;simpa using h
 simp only[JA,Array.toList_setIfInBounds];rw[List.countP_set (by simpa using a),c]
 have:0<listed.toList.countP (·==false):=List.countP_pos_iff.2 ⟨false,by rw[<-c];exact List.getElem_mem _,rfl⟩
 rw[if_pos (by rfl),if_neg dc]
 omega
theorem cu(listed:Array Bool)(i k:Nat)(d:Bool)(a:i<listed.size):(listed.setIfInBounds i true).getD k d=if k=i then true else listed.getD k d:=by
 simp only[aD];by_cases e:k=i
 ·subst e;simp[a]
 ·rw[if_neg e,ct (Ne.symm e)]
theorem jK{ops:Array Oper}{Q:Exit->Act->World->Prop}(I:Array Bool->Act->World->Prop)
  (hstep:∀listed a w i,I listed a w->i∈cQ .any ops listed->wpOp ah ops Q i (fun a' w'=>I (listed.setIfInBounds i true) a' w') a w)
  (b:∀listed a w,I listed a w->cQ .any ops listed=[]->Q .normal a w) :
  ∀fuel listed a w,JA listed<=fuel->I listed a w->wpAny ah .any ops Q fuel listed a w
 | 0,listed,a,w,g,c=>by
  have d:cQ .any ops listed=[]:=by
   cases d:cQ .any ops listed with
   | nil=>rfl
   | cons x xs =>
    obtain⟨o,_,e,_⟩:=dG (i:=x) (by rw[d];exact fP ..)
    have:=EO e;omega
  exact⟨d,b listed a w c d⟩
 | fuel+1,listed,a,w,g,c=>by
  refine⟨b listed a w c,fun i f=>?_⟩;obtain⟨o,_,e,_⟩:=dG f;have j:=EO e;exact wpOp_mono (fun a' w' h=>jK I hstep b fuel _ a' w' om h) (hstep listed a w i c f)
def gM(ops:Array Oper)(listed:Array Bool):Prop:=∀(i:Nat) (o:Oper),ops[i]? = some o->listed.getD i false=true->∀k∈py o,listed.getD k false=true
theorem fm{ops:Array Oper}{listed:Array Bool}(b:gM ops listed):∀(f j i:Nat) (o:Oper),ops[i]? = some o->(∀k∈py o,listed.getD k false=true)->po ops f j i=true->listed.getD j false=true
 | 0,_,_,_,_,_,h=>by simp[po]at h
 | f+1,j,i,o,d,c,h=>by
  simp only[po,d,fL]at h;rcases h with h|h
  ·exact c j (by simpa using h)
  ·obtain⟨k,e,h⟩:=List.any_eq_true.1 h
   replace h:=(bL _ _▸h:_/\_).2
   cases f with
   | zero=>simp[po]at h
   | succ f =>
    cases a:ops[k]? with
    | none=>simp[po,a]at h
    | some ok=>exact fm b (f+1) j k ok a (b k ok a (c k e)) h
structure DOK(ops:Array Oper)(q:Nat):Prop where
 guard:∀(i:Nat) (o:Oper),ops[i]? = some o->o.guard=ae
 back:∀(i:Nat) (o:Oper),ops[i]? = some o->∀k∈py o,k<i
 reads:∀(i:Nat) (o:Oper) (j:Nat) (p:Oper) (t:Nat),i<q->j<q->ops[i]? = some o->ops[j]? = some p->p.dst=some t->t∈kG o->j<i/\j∈py o
 apart:∀(i:Nat) (o:Oper) (j:Nat) (p:Oper) (t:Nat),i<q->j<q->ops[i]? = some o->ops[j]? = some p->o.dst=some t->p.dst=some t->i=j
 tail:∀(i:Nat) (o:Oper),q<=i->ops[i]? = some o->∀j,j<i->j∈py o∨po ops 12 j i=true
 le:q<=ops.size
theorem iE(h:l[i]? = some o):(o,i)∈l.zipIdx:=by
 rw[List.mem_zipIdx_iff_getElem?];exact h
theorem CE(h:xG ops q=true):DOK ops q:=by
 simp only[xG,bL,decide_eq_true_eq]at h;obtain⟨⟨⟨⟨⟨l,m⟩,n⟩,r⟩,s⟩,u⟩:=h;have gl:∀{i:Nat} {o:Oper},ops[i]? = some o->ops.toList[i]? = some o:=fun h=>by simpa using h
 have tk:∀{i:Nat} {o:Oper},i<q->ops[i]? = some o->(o,i)∈(ops.toList.take q).zipIdx:=fun b a=>iE (by rw[eW,if_pos b];exact gl a)
 refine⟨fun i o a=>?_,fun i o a k v=>?_,fun i o j p t b c a e f w=>?_,fun i o j p t b c a e f g=>?_,fun i o b a j c=>?_,by simpa using u⟩
 ·have:=ap.1 l o (cR (gl a));simpa using this
 ·have:=ap.1 (ap.1 m (o,i) (iE (gl a))) k v;simpa using this
 ·have:=ap.1 (ap.1 n (o,i) (tk b a)) (p,j) (tk c e);simp only[f]at this;simp only[fL,io,bL,decide_eq_true_eq]at this;rcases this with d|d
  ·simp at d;exact absurd w d
  ·exact⟨d.1,by simpa using d.2⟩
 ·have:=ap.1 (ap.1 r (o,i) (tk b a)) (p,j) (tk c e);simp only[f,g]at this;simpa using this
 ·have x:(o,i)∈ops.toList.zipIdx.drop q:=by
   rw[List.mem_iff_getElem?];exact⟨i-q,by rw[List.getElem?_drop,(om:q+(i-q)=i),List.getElem?_zipIdx,gl a];simp⟩
  have:=ap.1 (ap.1 s (o,i) x) j (by simpa using c)
  simpa using this
theorem j8(h:∀t∈kG o,O t=O' t):∀x,x∈o.op.operands.toList->ev O x=ev O' x:=by
 intro x a
 cases x with
 | tmp t=>exact h t (by simp only[kG,iO];exact⟨.tmp t,a,rfl⟩)
 | const v=>rfl
 | global g=>rfl
 | func f=>rfl
theorem dX.fresh(h:dX w S){b:Nat}(c:w.heap.size<=b):S b=ae:=by
 cases e:S b with
 | none=>rfl
 | some X=>obtain⟨cs,a,_⟩:=h b X e;exact absurd (dW a) om

mutual
theorem bB.turn{M M':Nat->Prop}{w:World}(o:∀k,k<w.heap.size->M' k->M k):∀(a:AV) (v:Value),bB w M a v->bB w M' a v
 | .int k n,v,h=>by simpa [bB]using h
 | .bool b,v,h=>by simpa [bB]using h
 | .big z,v,h=>by simpa [bB]using h
 | .nil,v,h=>by simpa [bB]using h
 | .sl es b off len,v,h=>by simpa [bB]using h
 | .ptr es b i,v,h=>by simpa [bB]using h
 | .lst es n g,v,h=>by
  simp only[bB]at h ⊢;obtain⟨A,c,d,m,C⟩:=h;refine⟨A,c,d,m,fun D=>?_⟩;obtain⟨b,off,e,s,q,E⟩:=C D;refine⟨b,off,e,s,fun r=>q (o b s r),fun j t=>?_⟩;obtain⟨u,y,B⟩:=E j t;exact⟨u,y,bB.turn o (g j) u B⟩
 | .pat es x,v,h=>by
  simp only[bB]at h ⊢;obtain⟨b,off,u,d,s,q,y,F⟩:=h;exact⟨b,off,u,d,s,fun r=>q (o b s r),y,bB.turn o x u F⟩
 | .tup l,v,h=>by
  simp only[bB]at h ⊢;obtain⟨vs,d,m⟩:=h;exact⟨vs,d,a6.turn o l vs m⟩
 | .agg l,v,h=>by
  simp only[bB]at h ⊢;obtain⟨vs,d,m⟩:=h;exact⟨vs,d,a6.turn o l vs m⟩
 | .fn f l,v,h=>by
  simp only[bB]at h ⊢;obtain⟨vs,d,m⟩:=h;exact⟨vs,d,a6.turn o l vs m⟩
 | .mag n,v,h=>by simpa [bB]using h
 | .fp b i f,v,h=>by simpa [bB]using h
 | .bset p,v,h=>by simpa [bB]using h
 | .any,v,h=>by simp[bB]
 | .nfn,v,h=>by simpa [bB]using h
 | .mfn f l,v,h=>by
  simp only[bB]at h ⊢;obtain⟨vs,d,m⟩:=h;exact⟨vs,d,a6.turn o l vs m⟩
theorem a6.turn{M M':Nat->Prop}{w:World}(b:∀k,k<w.heap.size->M' k->M k):∀(l:List AV) (vs:List Value),a6 w M l vs->a6 w M' l vs
 | [],[],_=>by simp[a6]
 | a::l,v::vs,h=>by
  simp only[a6]at h ⊢;exact⟨bB.turn b a v h.1,a6.turn b l vs h.2⟩
 | [],_::_,h=>by simp[a6]at h
 | _::_,[],h=>by simp[a6]at h
end
theorem cG.any(h:cG qu qu w w')(M:Nat->Prop):cG M M w w':=⟨h.os,h.tape,h.output,h.size,fun k a _=>h.keep k a (fun x=>x),h.shape,fun _ _ h=>h⟩
theorem dX.frozen(h:dX w S)(a:cG qu qu w w'):dX w' S:=fun b X d=>by
 obtain⟨cs,c,e,f,g⟩:=h b X d;exact⟨cs,(a.keep b (dW c) (fun x=>x)).trans c,e,fun j i=>by obtain⟨u,k,l⟩:=f j i;exact⟨u,k,bB.grow h.noU (a.any _) _ _ l⟩,g⟩
def LV(w:World)(M:Nat->Prop)(S:St):Prop:=∀b x,S b=some x->∃cs,w.heap[b]? = some (.cells cs x.ty (0,0))/\x.es*x.n<=cs.size /\
 (∀j,j<x.n->∃u,reads cs (x.es*j) x.es u/\bB w M (x.g j) u)/\∀(k:Nat) (y:Value),cs[k]? = some y->li y
def ZX(X:dH)(zc:Array Value):Prop:=X.es*X.n<=zc.size/\(∀w M j,j<X.n->∃u,reads zc (X.es*j) X.es u/\bB w M (X.g j) u)/\∀(k:Nat) (y:Value),zc[k]? = some y->li y
theorem qi{w:World}{a:Act}{N B0:Nat}{M:Nat->Prop}{K:Tm->St->Prop}:∀(L:List (Nat×dH×Nat)) (O:Tm) (S:St),mS (L.map fun x=>(x.1,x.2.1)) O S K ->
  LV w M S->(∀t,bB w M (O t) (a.tmps.getD t undef))->(∀x∈L,a.tmps.getD x.1 undef=.pointer (some ⟨x.2.2,0,ae⟩)/\∃zc,w.heap[x.2.2]? = some (.cells zc x.2.1.ty (0,0))/\ZX x.2.1 zc) ->
  (L.map (·.2.2)).Nodup->(∀x∈L,S x.2.2=ae/\B0<=x.2.2) ->
  ∃O' S',K O' S'/\LV w M S'/\(∀t,bB w M (O' t) (a.tmps.getD t undef))/\∀k,S'.dom k->S.dom k∨B0<=k
 | [],O,S,h,i,l,_,_,_=>⟨O,S,by simpa [mS]using h,i,l,fun k m=>bn m⟩
 | (d,X,b)::L,O,S,h,i,l,o,n,p=>by
  simp only[gV,mS]at h;obtain⟨q,zc,r,s,u,v⟩:=o (d,X,b) (fP ..);obtain⟨y,z⟩:=p (d,X,b) (fP ..);simp only at q r s u v y z;simp only[gV,List.nodup_cons]at n;obtain⟨O',S',A,B,C,D⟩:=qi (B0:=B0) (N:=N) L (O.put (some d) (.ptr X.es b 0)) (S.upd b X) (h b y)
   (fun k Y c=>by
    simp only[St.upd]at c;by_cases e:k=b
    ·rw[if_pos e]at c;cases c;subst e;exact⟨zc,r,s,fun j E=>u w M j E,v⟩
    ·rw[if_neg e]at c;exact i k Y c)
   (fun t=>by
    simp only[Tm.put_eq];by_cases e:t=d
    ·subst e;rw[if_pos rfl,q];simp[bB]
    ·rw[if_neg e];exact l t)
   (fun x g=>o x (eA _ g)) n.2
   (fun x g=>by
    obtain⟨s1,F⟩:=p x (eA _ g);refine⟨?_,F⟩;simp only[St.upd];rw[if_neg]
    ·exact s1
    ·intro e;exact n.1 (by rw[<-e];exact fK.2 ⟨x,g,rfl⟩))
  refine⟨O',S',A,B,C,fun k m=>?_⟩;rcases D k m with f|f
  ·simp only[St.dom,St.upd]at f ⊢;by_cases e:k=b
   ·right;rw[e];exact z
   ·rw[if_neg e]at f;exact bn f
  ·exact aK f
theorem jS{t:Nat}(h:d≠some t):(a.put d v).tmps.getD t undef=a.tmps.getD t undef:=by
 cases d with
 | none=>rfl
 | some d =>
  simp only[Act.put,aD];rw[ct (fun e=>h (by rw[e]))]
theorem put_eq{d:Nat}(h:d<a.tmps.size):(a.put (some d) v).tmps.getD d undef=v:=by
 simp[Act.put,Array.getD,h]
theorem jY:(a.put d v).tmps.size=a.tmps.size:=by cases d<;>simp[Act.put]
theorem iD:(a.put d v).defers=a.defers:=by cases d<;>simp[Act.put]

structure pC(ops:Array Oper)(q:Nat)(S:St)(O1:Tm)(al:Nat->Option dH)(N:Nat)(a0:Act)(w0:World)(listed:Array Bool)(a:Act)(w:World):Prop where
 size:listed.size=ops.size
 tailU:∀i,q<=i->i<ops.size->listed.getD i true=false
 defers:a.defers=[]
 tsize:a.tmps.size=N
 gr:cG qu qu w0 w
 tm:∀t,(∀(j:Nat) (o:Oper),j<q->ops[j]? = some o->o.dst=some t->listed.getD j false=true)->bB w S.dom (O1 t) (a.tmps.getD t undef)
 old:∀t,(∀(j:Nat) (o:Oper),j<q->ops[j]? = some o->o.dst≠some t)->a.tmps.getD t undef=a0.tmps.getD t undef
 news:∃B:Nat->Nat,(∀(i:Nat) (o:Oper) (X:dH) (d:Nat),i<q->ops[i]? = some o->al i=some X->o.dst=some d->listed.getD i false=true ->
   a.tmps.getD d undef=.pointer (some ⟨B i,0,ae⟩)/\w0.heap.size<=B i/\∃zc,w.heap[B i]? = some (.cells zc X.ty (0,0))/\ZX X zc) /\
  ∀i j,i<q->j<q->(al i).isSome=true->(al j).isSome=true->listed.getD i false=true->listed.getD j false=true->B i=B j->i=j
structure BA(ops:Array Oper)(q:Nat)(K:Tm->St->Prop)(D:Nat->Prop)(N:Nat)(w0:World)(listed:Array Bool)(a:Act)(w:World):Prop where
 ex:∃k,q<=k/\k<=ops.size/\listed.size=ops.size/\(∀i,i<ops.size->(listed.getD i true=true↔i<k))/\∃O S,Bp ops (ops.toList.drop k) O S K/\RT O S N a w/\cG D S.dom w0 w
theorem oW{α β:Type}{f:α->β}:∀{l:List α},l.Nodup->(∀x∈l,∀y∈l,f x=f y->x=y)->(l.map f).Nodup
 | [],_,_=>by simp
 | a::l,h,c=>by
  simp only[List.nodup_cons]at h;simp only[gV,List.nodup_cons,fK,not_exists,not_and];refine⟨fun x b e=>?_,oW h.2 (fun x b y d=>c x (eA _ b) y (eA _ d))⟩;have:=c x (eA _ b) a (fP ..) e;subst this;exact h.1 b
theorem n0(n i:Nat):(jd n false).getD i false=false:=by
 rw[aD,Array.getElem?_replicate];split<;>rfl
theorem AC{n:Nat}(h:i<n):(jd n false).getD i true=false:=by
 rw[aD,Array.getElem?_replicate,if_pos h];rfl
theorem Gw{id:Nat}{K:Tm->St->Prop}(h:awD ops O S K)(hr:RT O S N a w)(hd:ri N ops.toList=true)
  (hq:∀O' S' a' w',K O' S'->RT O' S' N a' w'->cG S.dom S'.dom w w'->Q .normal a' w'):(Code.region id ops true).wp ah Q a w:=by
 obtain⟨q,hok,hH⟩:=h;have D:=CE hok;have hlen:(ops.toList.take q).length=q:=by rw[List.length_take];have:=D.le;simp;omega
 obtain⟨Os,al,e0,hK,hi⟩:=oA _ _ _ _ _ hH;rw[hlen]at hK;have hi':∀(i:Nat) (o:Oper),i<q->ops[i]? = some o->(∃t d X,o.op=.alloc t/\o.dst=some d/\lB t=some X/\al i=some X/\Os (i+1)=(Os i).put (some d) .any) ∨
   (al i=ae/\∃z,yA o (Os i) S z/\Os (i+1)=(Os i).put o.dst z):=fun i o A g=>hi i o (by rw[eW,if_pos A];simpa using g)
 have step_ne:∀i o t,i<q->ops[i]? = some o->o.dst≠some t->Os (i+1) t=Os i t:=by
  intro i o t A g ht;rcases hi' i o A g with⟨_,d,X,_,l,_,_,n⟩|⟨_,z,_,n⟩
  ·rw[n];simp only[Tm.put_eq];rw[if_neg];intro e;exact ht (by rw[l,e])
  ·rw[n]
   cases hdo:o.dst with
   | none=>rw[Tm.put_eq]
   | some d=>simp only[Tm.put_eq];rw[if_neg];intro e;exact ht (by rw[hdo,e])
 have stable:∀t k i,i<=k->k<=q->(∀j o,i<=j->j<k->ops[j]? = some o->o.dst≠some t)->Os k t=Os i t:=by
  intro t k
  induction k with
  | zero=>intro i c _ _;rw[(om:i=0)]
  | succ k ih =>
   intro i c l r;by_cases e:i=k+1
   ·rw[e]
   ·have F:k<ops.size:=by have:=D.le;omega
    rw[step_ne k ops[k] t om (aC F) (r k _ om om (aC F))];exact ih i om om (fun j o hj1 G g=>r j o hj1 om g)
 have w0s:dX w.drew S:=hr.st.drew;have r0:RT O S N a w.drew:=⟨hr.defers,hr.size,fun t=>bB.grow hr.st.noU (cG.drew _ w) _ _ (hr.tm t),w0s⟩;have dstN:∀(i:Nat) (o:Oper) (d:Nat),ops[i]? = some o->o.dst=some d->d<N:=by
  intro i o d g hdd;have:=ap.1 hd o (cR (by simpa using g:ops.toList[i]? = some o))
  rw[hdd]at this;simpa using this
 have HT:∀listed a' w',pC ops q S (Os q) al N a w.drew listed a' w'->(∀j,j<q->listed.getD j false=true)->BA ops q K S.dom N w.drew listed a' w':=by
  intro listed a' w' H s;have hS:dX w' S:=w0s.frozen H.gr;have htm:∀t,bB w' S.dom (Os q t) (a'.tmps.getD t undef):=fun t=>H.tm t (fun j o C _ _=>s j C);refine⟨q,af _,D.le,H.size,fun i hio=>?_,?_⟩
  ·constructor
   ·intro c;rcases az i q with l|l
    ·exact l
    ·rw[H.tailU i l hio]at c;cases c
   ·intro c;have:=s i c;rw[aD]at this ⊢
    cases hl:listed[i]? with
    | none=>rw[hl]at this;cases this
    | some b=>rw[hl]at this;exact this
  ·generalize hpe:(([]:List (Nat×dH))++(dY q).filterMap (fun i=>(al i).bind fun X=>((ops.toList.take q)[i]?).bind fun o=>o.dst.map fun d=>(d,X)))=pend at hK;by_cases hem:pend.isEmpty=true
   ·simp only[hem,if_true]at hK;exact⟨_,S,hK,⟨H.defers,H.tsize,htm,hS⟩,H.gr.any _⟩
   ·simp only[hem]at hK;obtain⟨B,W,hB2⟩:=H.news
    let idx:=(dY q).filter (fun i=>((al i).bind fun X=>((ops.toList.take q)[i]?).bind fun o=>o.dst.map fun d=>(d,X)).isSome)
    let f:Nat->Nat×dH×Nat:=fun i=>match ((al i).bind fun X=>((ops.toList.take q)[i]?).bind fun o=>o.dst.map fun d=>(d,X))with
     | some (d,X)=>(d,X,B i)
     | ae=>(0,⟨0,0,0,fun _=>.any⟩,B i)
    have Z:∀i∈idx,∃o X d,i<q/\ops[i]? = some o/\al i=some X/\o.dst=some d/\f i=(d,X,B i):=by
     intro i P;simp only[idx,pj,jH]at P;obtain⟨c,l⟩:=P;obtain⟨p,L⟩:=Option.isSome_iff_exists.1 l;have hf:f i=(p.1,p.2,B i):=by simp only[f,L]
     simp only[Option.bind_eq_some_iff,eC]at L;obtain⟨X,hX,o,g,d,hd1,hd2⟩:=L;rw[eW,if_pos c]at g;refine⟨o,X,d,c,by simpa using g,hX,hd1,?_⟩
     rw[hf,<-hd2]
    have hpend:pend=(idx.map f).map fun x=>(x.1,x.2.1):=by
     rw[<-hpe,List.nil_append,List.map_map];simp only[idx];generalize dY q=rg
     induction rg with
     | nil=>rfl
     | cons i rg ih =>
      simp only[List.filterMap_cons,List.filter_cons]
      cases hc:((al i).bind fun X=>((ops.toList.take q)[i]?).bind fun o=>o.dst.map fun d=>(d,X))with
      | none=>simp only[Option.isSome_none,bQ,if_false];exact ih
      | some p=>simp only[Option.isSome_some,if_true,gV];rw[<-ih];simp only[Function.comp,f,hc]
    rw[hpend]at hK
    let M:Nat->Prop:=fun b=>S.dom b∨w.drew.heap.size<=b
    have hnuM:NF M w.drew:=by
     intro b hb cs ty fr hc;rcases hb with hb|hb
     ·exact w0s.noU b hb cs ty fr hc
     ·exact absurd (dW hc) om
    have up:∀x v,bB w.drew S.dom x v->bB w' M x v:=fun x v hx =>
     bB.grow hnuM (H.gr.any M) x v (bB.turn (M:=S.dom) (M':=M) (fun k F hm=>by
      rcases hm with hm|hm
      ·exact hm
      ·omega) x v hx)
    have hres:=qi (a:=a') (w:=w') (N:=N) (B0:=w.drew.heap.size) (M:=M) (idx.map f) _ S hK
     (fun b X hX=>by
      obtain⟨cs,c,l,r,y⟩:=w0s b X hX;exact⟨cs,(H.gr.keep b (dW c) (fun x=>x)).trans c,l,fun j C=>by obtain⟨u,n,R⟩:=r j C;exact⟨u,n,up _ _ R⟩,y⟩)
     (fun t=>by
      simp only[sM];by_cases hin:(lL (ops.toList.take q)).contains t=true
      ·by_cases hmf:qN (Os q t)=true
       ·simp only[hmf,Bool.not_true,Bool.and_false,bQ,if_false];exact qM hmf (htm t)
       ·simp only[hin,hmf,Bool.not_false,Bool.and_self,if_true];simp[bB]
      ·simp only[hin,Bool.false_and,bQ,if_false];have hno:∀(j:Nat) (o:Oper),j<q->ops[j]? = some o->o.dst≠some t:=by
        intro j o C g hdt;apply hin;simp only[lL,List.contains_iff_mem,iO];exact⟨o,cR (i:=j) (by rw[eW,if_pos C];simpa using g),hdt⟩
       rw[H.old t hno,stable t q 0 om (af _) (fun j o _ C g=>hno j o C g),e0];exact up _ _ (r0.tm t))
     (fun x hx=>by
      obtain⟨i,P,rfl⟩:=fK.1 hx;obtain⟨o,X,d,c,l,r,y,n⟩:=Z i P;rw[n];obtain⟨g1,g2,g3⟩:=W i o X d c l r y (s i c);exact⟨g1,g3⟩)
     (by
      rw[List.map_map];refine oW (List.Pairwise.filter _ List.nodup_range) (fun i P j hjj e=>?_);obtain⟨o,X,d,c,l,r,y,n⟩:=Z i P;obtain⟨o',X',d',h1',h2',h3',h4',h5'⟩:=Z j hjj;simp only[Function.comp,n,h5']at e;exact hB2 i j c h1' (by rw[r];rfl) (by rw[h3'];rfl) (s i c) (s j h1') e)
     (fun x hx=>by
      obtain⟨i,P,rfl⟩:=fK.1 hx;obtain⟨o,X,d,c,l,r,y,n⟩:=Z i P;rw[n];obtain⟨g1,g2,g3⟩:=W i o X d c l r y (s i c);exact⟨w0s.fresh g2,g2⟩)
    obtain⟨O',S',k1,k2,k3,k4⟩:=hres;have hdom:∀k,k<w'.heap.size->S'.dom k->M k:=fun k _ F=>k4 k F;refine⟨O',S',k1,⟨H.defers,H.tsize,fun t=>bB.turn hdom _ _ (k3 t),fun b X hX=>?_⟩,?_⟩
    ·obtain⟨cs,c,l,r,y⟩:=k2 b X hX;exact⟨cs,c,l,fun j C=>by obtain⟨u,n,R⟩:=r j C;exact⟨u,n,bB.turn hdom _ _ R⟩,y⟩
    ·refine⟨H.gr.os,H.gr.tape,H.gr.output,H.gr.size,fun k F _=>H.gr.keep k F (fun x=>x),H.gr.shape,fun k F hm=>?_⟩;rcases k4 k hm with R|R
     ·exact R
     ·exact absurd F om
 have tailStep:∀listed a' w' i,BA ops q K S.dom N w.drew listed a' w'->gM ops listed->i∈cQ .any ops listed->wpOp ah ops Q i (fun a'' w''=>pC ops q S (Os q) al N a w.drew (listed.setIfInBounds i true) a'' w''∨BA ops q K S.dom N w.drew (listed.setIfInBounds i true) a'' w'') a' w':=by
  intro listed a' w' i T U hi;obtain⟨k,hk1,hk2,hsz,hl,O',S',hL,hR,hG⟩:=T.ex;obtain⟨o,g,hun,E⟩:=dG hi;have hio:i<ops.size:=(ci.1 g).1;have hik:i=k:=by
   rcases Nat.lt_trichotomy i k with c|c|c
   ·rw[(hl i hio).2 c]at hun;cases hun
   ·exact c
   ·have l:listed.getD k false=true:=(D.tail i o om g k c).elim (E k) (fm U 12 k i o g E);have r:listed.getD k true=true:=by
     rw[aD]at l ⊢
     cases hx:listed[k]? with
     | none=>rw[hx]at l;cases l
     | some b=>rw[hx]at l;exact l
    have:=(hl k om).1 r;omega
  subst hik;have hdrop:ops.toList.drop i=o::ops.toList.drop (i+1):=by
   have c:ops.toList[i]? = some o:=by simpa using g
   rw[List.drop_eq_getElem_cons (by simpa using hio)]
   congr 1;have:=List.getElem?_eq_some_iff.1 c;exact this.2
  rw[hdrop]at hL;unfold Bp at hL;rw[D.guard i o g]at hL;unfold wpOp;simp only[g];rw[if_pos (by simp[eH,D.guard i o g])]
  refine bn (lD hL hR (fun z v w'' S'' hz hv hs hg=>aK ⟨i+1,om,om,by simp[hsz],fun j C=>?_,_,S'',hz,hR.put hg hs (fun d hdd=>dstN i o d g hdd) hv,hG.trans hg⟩))
  rw[cu _ _ _ _ om];by_cases e:j=i
  ·subst e;simp
  ·rw[if_neg e,hl j C];omega
 have headStep:∀listed a' w' i,pC ops q S (Os q) al N a w.drew listed a' w'->gM ops listed->i∈cQ .any ops listed->wpOp ah ops Q i (fun a'' w''=>pC ops q S (Os q) al N a w.drew (listed.setIfInBounds i true) a'' w''∨BA ops q K S.dom N w.drew (listed.setIfInBounds i true) a'' w'') a' w':=by
  intro listed a' w' i H U hi;obtain⟨o,g,hun,E⟩:=dG hi;have hio:i<ops.size:=(ci.1 g).1;have hils:i<listed.size:=by rw[H.size];exact hio
  rcases az i q with A|A
  ·have J:∀j d,(listed.setIfInBounds i true).getD j d=if j=i then true else listed.getD j d:=fun j d=>cu _ _ _ _ hils
   have gr2:∀{w'':World},cG qu qu w' w''->cG qu qu w.drew w'':=fun hg=>H.gr.trans hg;have hS:dX w' S:=w0s.frozen H.gr;have mk:∀(v:Value) (w'':World),cG qu qu w' w''->(∀d,o.dst=some d->bB w'' S.dom (Os q d) v) ->
     (∃B:Nat->Nat,(∀(j:Nat) (p:Oper) (X:dH) (d:Nat),j<q->ops[j]? = some p->al j=some X->p.dst=some d->(listed.setIfInBounds i true).getD j false=true ->
       (a'.put o.dst v).tmps.getD d undef=.pointer (some ⟨B j,0,ae⟩)/\w.drew.heap.size<=B j/\∃zc,w''.heap[B j]? = some (.cells zc X.ty (0,0))/\ZX X zc) /\
      ∀j k,j<q->k<q->(al j).isSome=true->(al k).isSome=true->(listed.setIfInBounds i true).getD j false=true->(listed.setIfInBounds i true).getD k false=true->B j=B k->j=k) ->
     pC ops q S (Os q) al N a w.drew (listed.setIfInBounds i true) (a'.put o.dst v) w'':=by
    intro v w'' hg hz hB;refine⟨by simp[H.size],fun j hj1 G=>?_,by rw[iD];exact H.defers,by rw[jY];exact H.tsize,gr2 hg,fun t ht=>?_,fun t ht=>?_,hB⟩
    ·rw[J,if_neg om];exact H.tailU j hj1 G
    ·by_cases e:o.dst=some t
     ·rw[e,put_eq (by rw[H.tsize];exact dstN i o t g e)]
      exact hz t e
     ·rw[jS e];refine bB.grow hS.noU (hg.any _) _ _ (H.tm t (fun j p C L hpt=>?_));have:=ht j p C L hpt;rw[J]at this;by_cases I:j=i
      ·subst I;rw[g]at L;cases L;exact absurd hpt e
      ·rw[if_neg I]at this;exact this
    ·rw[jS (ht i o A g)];exact H.old t ht
   rcases hi' i o A g with⟨t,d,X,hop,V,hX,hal,hO⟩|⟨hal,z,hz,hO⟩
   ·obtain⟨zc,z1,z2,z3⟩:=zV hX;unfold wpOp;simp only[g];rw[if_pos (by simp[eH,D.guard i o g])]
    refine bn (fJ (v:=.pointer (some ⟨w'.heap.size,0,ae⟩)) (w':=w'.alloc (.cells zc t)) (by simp[execOp,hop,z2 w']) (bn ?_))
    have hg:cG qu qu w' (w'.alloc (.cells zc t)):=⟨rfl,rfl,rfl,sm,fun k F _=>nU w' _ k F,fun k cs ty fr hc=>⟨cs,by rw[nU w' _ k (dW hc)];exact hc,rfl⟩,fun _ _ h=>h⟩
    obtain⟨B,W,hB2⟩:=H.news;have hBlt:∀(j:Nat) (p:Oper) (Y:dH) (e:Nat),j<q->ops[j]? = some p->al j=some Y->p.dst=some e->listed.getD j false=true->B j<w'.heap.size:=by
     intro j p Y e c l r y n;obtain⟨_,_,zc',hz',_⟩:=W j p Y e c l r y n;exact dW hz'
    have hdsome:∀(j:Nat),j<q->(al j).isSome=true->∃p Y e,ops[j]? = some p/\al j=some Y/\p.dst=some e:=by
     intro j C hs;have hjs:j<ops.size:=by have:=D.le;omega
     rcases hi' j ops[j] C (aC hjs)with⟨_,e,Y,_,l,_,y,_⟩|⟨y,_⟩
     ·exact⟨ops[j],Y,e,aC hjs,y,l⟩
     ·rw[y]at hs;cases hs
    refine mk _ _ hg (fun d' hd'=>?_) ⟨fun j=>if j=i then w'.heap.size else B j,fun j p Y e c l r y n=>?_,fun j k c l r y n R h7=>?_⟩
    ·rw[V]at hd';cases hd';have:Os q d=.any:=by
      rw[stable d q (i+1) om (af _) (fun j p hj1 G L hpd=>by
       have:=D.apart i o j p d A G g L V hpd;omega),hO]
      simp[Tm.put_eq]
     rw[this];simp[bB]
    ·by_cases I:j=i
     ·subst I;rw[g]at l;cases l;rw[V]at y;cases y;rw[hal]at r;cases r;simp only[if_true];refine⟨by rw[V,put_eq (by rw[H.tsize];exact dstN j o d g V)],H.gr.size,zc,?_,z3⟩
      rw[z1];exact heap_alloc_new w' _
     ·simp only[if_neg I];rw[J,if_neg I]at n;obtain⟨g1,g2,zc',g3,g4⟩:=W j p Y e c l r y n;refine⟨?_,g2,zc',?_,g4⟩
      ·rw[jS]
       ·exact g1
       ·intro e3;exact I (D.apart j p i o e c A l g y e3)
      ·rw[nU w' _ _ (dW g3)];exact g3
    ·rw[J]at n R;by_cases e1:j=i
     ·by_cases I:k=i
      ·rw[e1,I]
      ·simp only[if_pos e1,if_neg I]at h7;rw[if_neg I]at R;obtain⟨p,Y,e,b1,b2,b3⟩:=hdsome k l y;have:=hBlt k p Y e l b1 b2 b3 R;omega
     ·by_cases I:k=i
      ·simp only[if_neg e1,if_pos I]at h7;rw[if_neg e1]at n;obtain⟨p,Y,e,b1,b2,b3⟩:=hdsome j c r;have:=hBlt j p Y e c b1 b2 b3 n;omega
      ·simp only[if_neg e1,if_neg I]at h7;rw[if_neg e1]at n;rw[if_neg I]at R;exact hB2 j k c l r y n R h7
   ·classical
    let Oe:Tm:=fun t=>if (∀(j:Nat) (p:Oper),j<q->ops[j]? = some p->p.dst=some t->listed.getD j false=true)then Os q t else .any
    have hRe:RT Oe S N a' w':=⟨H.defers,H.tsize,fun t=>by
     simp only[Oe];split
     ·rename_i hc;exact H.tm t hc
     ·simp[bB],hS⟩
    have hze:yA o Oe S z:=lG (j8 fun t ht=>by
     have hc:∀(j:Nat) (p:Oper),j<q->ops[j]? = some p->p.dst=some t->listed.getD j false=true:=fun j p C L hpt =>
      E j (D.reads i o j p t A C g L hpt ht).2
     simp only[Oe];rw[if_pos hc,stable t q i om (af _) (fun j p hj1 G L hpt=>by
      have:=(D.reads i o j p t A G g L hpt ht).1;omega)]) hz
    unfold wpOp;simp only[g];rw[if_pos (by simp[eH,D.guard i o g])]
    refine bn (mI hze hRe (fun v w'' hv hg=>bn ?_));obtain⟨B,W,hB2⟩:=H.news;refine mk v w'' hg (fun d hdd=>?_) ⟨B,fun j p Y e c l r y n=>?_,fun j k c l r y n R h7=>?_⟩
    ·have:Os q d=z:=by
      rw[stable d q (i+1) om (af _) (fun j p hj1 G L hpd=>by
       have:=D.apart i o j p d A G g L hdd hpd;omega),hO,hdd]
      simp[Tm.put_eq]
     rw[this];exact hv
    ·have hji:j≠i:=fun I=>by subst I;rw[hal]at r;cases r
     rw[J,if_neg hji]at n;obtain⟨g1,g2,zc',g3,g4⟩:=W j p Y e c l r y n;refine⟨?_,g2,zc',(hg.keep _ (dW g3) (fun x=>x)).trans g3,g4⟩;rw[jS]
     ·exact g1
     ·intro e3;exact hji (D.apart j p i o e c A l g y e3)
    ·rw[J]at n R;have hji:j≠i:=fun I=>by subst I;rw[hal]at r;cases r
     have hki:k≠i:=fun I=>by subst I;rw[hal]at y;cases y
     rw[if_neg hji]at n;rw[if_neg hki]at R;exact hB2 j k c l r y n R h7
  ·have s:∀j,j<q->listed.getD j false=true:=fun j C=>(D.tail i o A g j om).elim (E j) (fm U 12 j i o g E);exact tailStep listed a' w' i (HT listed a' w' H s) U hi
 have first:∀listed,listed.size=ops.size->cQ .any ops listed=[]->∀m,m<=ops.size->∀j,j<m->listed.getD j false=true:=by
  intro listed hsz hre m
  induction m with
  | zero=>intro _ j C;omega
  | succ m ih =>
   intro hm j C;by_cases e:j<m
   ·exact ih om j e
   ·obtain rfl:j=m:=om
    have hjo:j<ops.size:=om
    cases hv:listed.getD j false with
    | true=>rfl
    | false =>
     have G:listed.getD j true=false:=by
      rw[aD,aC om]at hv ⊢;exact hv
     have:j∈cQ .any ops listed:=pJ (aC hjo) G (fun k F=>ih om k (D.back j _ (aC hjo) k F));rw[hre]at this;cases this
 refine wp_region_any kr (jK (fun listed a' w'=>gM ops listed/\(pC ops q S (Os q) al N a w.drew listed a' w'∨BA ops q K S.dom N w.drew listed a' w')) ?_ ?_ ops.size _ a w.drew ?_ ⟨fun i o g h=>?_,bn ?_⟩)
 ·intro listed a' w' i hI hi;obtain⟨U,hI⟩:=hI;have hcl':gM ops (listed.setIfInBounds i true):=by
   obtain⟨o,g,hun,E⟩:=dG hi;have hgo:∀k,listed.getD k false=true->(listed.setIfInBounds i true).getD k false=true:=fun k F=>by
    rw[aD]at F ⊢;rw[Array.getElem?_setIfInBounds];split
    ·split<;>simp_all
    ·exact F
   intro j p L C k F;by_cases e:j=i
   ·subst e;rw[g]at L;cases L;exact hgo k (E k F)
   ·refine hgo k (U j p L ?_ k F);rw[aD]at C ⊢
    rwa [ct (Ne.symm e)]at C
  have e:(fun a'' w''=>gM ops (listed.setIfInBounds i true)/\(pC ops q S (Os q) al N a w.drew (listed.setIfInBounds i true) a'' w''∨BA ops q K S.dom N w.drew (listed.setIfInBounds i true) a'' w''))=fun a'' w''=>(pC ops q S (Os q) al N a w.drew (listed.setIfInBounds i true) a'' w''∨BA ops q K S.dom N w.drew (listed.setIfInBounds i true) a'' w''):=by
   funext a'' w'';simp[hcl']
  show wpOp ah ops Q i (fun a'' w''=>gM ops (listed.setIfInBounds i true)/\(pC ops q S (Os q) al N a w.drew (listed.setIfInBounds i true) a'' w''∨BA ops q K S.dom N w.drew (listed.setIfInBounds i true) a'' w'')) a' w';rw[e];rcases hI with H|T
  ·exact headStep listed a' w' i H U hi
  ·exact tailStep listed a' w' i T U hi
 ·rintro listed a' w' ⟨_,hI⟩ hre;have fin:BA ops q K S.dom N w.drew listed a' w'->Q .normal a' w':=by
   intro T;obtain⟨k,hk1,hk2,hsz,hl,O',S',hL,hR,hG⟩:=T.ex;have s:=first listed hsz hre ops.size (af _)
   have F:k=ops.size:=by
    rcases az k ops.size with c|c
    ·have l:=s k c;have r:listed.getD k true=true:=by
      rw[aD]at l ⊢
      cases hx:listed[k]? with
      | none=>rw[hx]at l;cases l
      | some b=>rw[hx]at l;exact l
     have:=(hl k c).1 r;omega
    ·omega
   rw[F,List.drop_of_length_le sm]at hL
   exact hq O' S' a' w' hL hR ((cG.drew S.dom w).trans hG)
  rcases hI with H|T
  ·exact fin (HT listed a' w' H (fun j C=>first listed H.size hre ops.size (af _) j (by have:=D.le;omega)))
  ·exact fin T
 ·simp only[JA];exact Nat.le_trans List.countP_le_length sm
 ·rw[n0]at h;cases h
 ·refine⟨sm,fun i _ hi2=>AC hi2,hr.defers,hr.size,cG.refl _ _,fun t ht=>?_,fun _ _=>rfl,fun _=>0,fun i o X d c l r y n=>?_,fun i j c l r y n R h7=>?_⟩
  ·have hno:∀(j:Nat) (o:Oper),j<q->ops[j]? = some o->o.dst≠some t:=by
    intro j o C g hdt;have:=ht j o C g hdt;rw[n0]at this;cases this
   rw[stable t q 0 om (af _) (fun j o _ C g=>hno j o C g),e0];exact r0.tm t
  ·rw[n0]at n;cases n
  ·rw[n0]at n;cases n

def Ik(l:List Oper)(q j:Nat):Bool:=decide (j<q)&&(match l[j]? with
 | some o=>(match o.op,o.dst with
  | .move _,some d=>(l.zipIdx.drop q).all (fun p=>(match p.1.dst with
    | some t=>!(kG o).contains t&&decide (t≠d)
    | ae=>true)&&(!(kG p.1).contains d||(py p.1).contains j))
  | _,_=>false)
 | ae=>false)
def Ft(ops:Array Oper)(q:Nat):Bool :=
 let l:=ops.toList
 l.all (fun o=>o.guard.isNone) &&
 l.zipIdx.all (fun p=>(py p.1).all (fun k=>decide (k<p.2))) &&
 (l.take q).zipIdx.all (fun p=>(l.take q).zipIdx.all (fun r=>match r.1.dst with
  | some t=>!(kG p.1).contains t||(decide (r.2<p.2)&&(py p.1).contains r.2)
  | ae=>true)) &&
 (l.take q).zipIdx.all (fun p=>(l.take q).zipIdx.all (fun r=>decide (p.2=r.2)||p.1.dst.isNone||p.1.dst != r.1.dst)) &&
 (l.zipIdx.drop q).all (fun p=>(dY p.2).all (fun j=>(py p.1).contains j||Ik l q j||po ops 12 j p.2)) &&
 decide (q<=l.length)
def awF(ops:Array Oper)(O:Tm)(S:St)(K:Tm->St->Prop):Prop:=∃q,Ft ops q=true /\
 Br (ops.toList.take q) O S [] (fun O' pend=>pend.isEmpty=true/\Bp ops (ops.toList.drop q) O' S K)
structure BK(ops:Array Oper)(q j:Nat)(x:Operand)(d:Nat):Prop where
 lt:j<q
 op:∃o,ops[j]? = some o/\o.op=.move x/\o.dst=some d
 tail:∀(i:Nat) (p:Oper),q<=i->ops[i]? = some p->(∀t,p.dst=some t->x≠.tmp t/\t≠d)/\(d∈kG p->j∈py p)
structure FOK(ops:Array Oper)(q:Nat):Prop where
 guard:∀(i:Nat) (o:Oper),ops[i]? = some o->o.guard=ae
 back:∀(i:Nat) (o:Oper),ops[i]? = some o->∀k∈py o,k<i
 reads:∀(i:Nat) (o:Oper) (j:Nat) (p:Oper) (t:Nat),i<q->j<q->ops[i]? = some o->ops[j]? = some p->p.dst=some t->t∈kG o->j<i/\j∈py o
 apart:∀(i:Nat) (o:Oper) (j:Nat) (p:Oper) (t:Nat),i<q->j<q->ops[i]? = some o->ops[j]? = some p->o.dst=some t->p.dst=some t->i=j
 tail:∀(i:Nat) (o:Oper),q<=i->ops[i]? = some o->∀j,j<i->(j∈py o∨po ops 12 j i=true)∨∃x d,BK ops q j x d
 le:q<=ops.size
theorem D6(h:Ft ops q=true):FOK ops q:=by
 simp only[Ft,bL,decide_eq_true_eq]at h;obtain⟨⟨⟨⟨⟨z,A⟩,B⟩,C⟩,D⟩,E⟩:=h;have gl:∀{i:Nat} {o:Oper},ops[i]? = some o->ops.toList[i]? = some o:=fun h=>by simpa using h
 have tk:∀{i:Nat} {o:Oper},i<q->ops[i]? = some o->(o,i)∈(ops.toList.take q).zipIdx:=fun e b=>iE (by rw[eW,if_pos e];exact gl b)
 have dm:∀{i:Nat} {o:Oper},q<=i->ops[i]? = some o->(o,i)∈ops.toList.zipIdx.drop q:=fun {i o} e b=>by
  rw[List.mem_iff_getElem?];exact⟨i-q,by rw[List.getElem?_drop,(om:q+(i-q)=i),List.getElem?_zipIdx,gl b];simp⟩
 refine⟨fun i o b=>?_,fun i o b k F=>?_,fun i o j p t e g b l m G=>?_,fun i o j p t e g b l m s=>?_,fun i o e b j g=>?_,by simpa using E⟩
 ·have:=ap.1 z o (cR (gl b));simpa using this
 ·have:=ap.1 (ap.1 A (o,i) (iE (gl b))) k F;simpa using this
 ·have:=ap.1 (ap.1 B (o,i) (tk e b)) (p,j) (tk g l);simp only[m]at this;simp only[fL,io,bL,decide_eq_true_eq]at this;rcases this with a|a
  ·simp at a;exact absurd G a
  ·exact⟨a.1,by simpa using a.2⟩
 ·have:=ap.1 (ap.1 C (o,i) (tk e b)) (p,j) (tk g l);simp only[m,s]at this;simpa using this
 ·have:=ap.1 (ap.1 D (o,i) (dm e b)) j (by simpa using g)
  simp only[fL]at this;rcases this with (a|a)|a
  ·exact bn (bn (by simpa using a))
  ·right;simp only[Ik,bL,decide_eq_true_eq]at a;obtain⟨u,a⟩:=a
   cases f:ops.toList[j]? with
   | none=>rw[f]at a;cases a
   | some oj =>
    rw[f]at a;simp only at a;split at a
    ·rename_i x d n v;refine⟨x,d,u,⟨oj,by simpa using f,n,v⟩,fun i' p w l=>?_⟩
     have y:=ap.1 a (p,i') (dm w l);simp only[bL,fL,io]at y;refine⟨fun t m=>?_,fun H=>?_⟩
     ·have c:=y.1;rw[m]at c;simp only[bL,io,decide_eq_true_eq]at c;refine⟨?_,c.2⟩;rintro rfl;have:t∈kG oj:=by simp only[kG,n,Op.operands,iO];exact⟨.tmp t,sm,rfl⟩
      have r:=c.1;simp at r;exact r this
     ·rcases y.2 with c|c
      ·simp at c;exact absurd H c
      ·simpa using c
    ·cases a
  ·exact bn (aK a)

end Go.Proofs.YtdobfmlmenaajaaGreatDoor
