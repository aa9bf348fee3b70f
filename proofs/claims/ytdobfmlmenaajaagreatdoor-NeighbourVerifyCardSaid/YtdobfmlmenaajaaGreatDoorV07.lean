/-
  Lemmas for NeighbourVerify.
-/
import Derived.Test.YtdobfmlmenaajaaGreatDoorV06
namespace Go.Proofs.YtdobfmlmenaajaaGreatDoor
open Go.RowKit Tryz
open _root_.List renaming replicate→bZ,range→et
open _root_.Option renaming none→ab
open Region renaming ready→kX,wanted→pu
open Tryz renaming prog→ai
set_option maxHeartbeats 6400000
set_option maxRecDepth 4096
set_option linter.all false
variable{x z:AV}{K:AV->St->Prop}{a:Act}{listed:Array Bool}{ops:Array Oper}{mv:Bool}{Q:Exit->Act->World->Prop}{jss:List (List Nat)}{l:List Oper}{N i j k q t:Nat}{o:Oper}{d:Option Nat}{S:St}{O O':Tm}{v:Value}{w w':World}{X:ft}
def EG(ops:Array Oper)(O:Tm)(j:Nat):AV:=match (ops[j]?).bind (·.dst)with
 | some d=>O d
 | ab=>.any
def Gb(ops:Array Oper):List Oper->Tm->St->(Tm->St->Prop)->Prop
 | [],O,S,K=>K O S
 | o::l,O,S,K=>(match o.guard with
  | ab=>AP o O S (fun z S'=>Gb ops l (O.put o.dst z) S' K)
  | some (j,want)=>(match EG ops O j with
   | .bool b=>(b=want->AP o O S (fun z S'=>Gb ops l (O.put o.dst z) S' K))/\(b=!want->Gb ops l (O.put o.dst .any) S K)
   | _=>False))
def xN(N:Nat)(l:List Oper):Bool:=l.all fun o=>match o.dst with
 | some d=>decide (d<N)
 | ab=>true
def Ii(h:xN N (o::l)=true):(∀k,o.dst=some k->k<N)/\xN N l=true:=by
 simp only[xN,List.all_cons,ay]at h;refine⟨fun k b=>?_,h.2⟩;have a:=h.1;rw[b]at a;simpa using a
def BW(g:RT O S N a w){j:Nat}{b:Bool}(h:EG ops O j=.bool b):yielded ops a.tmps j=some b:=by
 unfold EG at h
 cases e:(ops[j]?).bind (·.dst)with
 | none=>rw[e]at h;cases h
 | some d =>
  rw[e]at h;have c:=g.tm d;simp only at h;rw[h]at c;simp only[bM]at c;unfold yielded;rw[e];simp only[dJ]
  cases f:a.tmps[d]? with
  | none=>simp[cQ,f,undef]at c
  | some v =>
   have:v=.bool b:=by simpa [cQ,f]using c
   subst this;rfl
theorem wN{ops:Array Oper}{N:Nat}{Q:Exit->Act->World->Prop}{K:Tm->St->Prop}:∀(l:List Oper) {O:Tm} {S:St} {a:Act} {w:World},Gb ops l O S K->RT O S N a w->xN N l=true ->
  (∀O' S' a' w',K O' S'->RT O' S' N a' w'->dI S.dom S'.dom w w'->Q .normal a' w')->wpList ai ops Q l a w
 | [],O,S,a,w,h,d,_,i=>i O S a w h d (dI.refl _ _)
 | o::l,O,S,a,w,h,d,r,i=>by
  obtain⟨e,f⟩:=Ii r;have run:AP o O S (fun z S'=>Gb ops l (O.put o.dst z) S' K)->o.wp ai a w (wpList ai ops Q l) Q:=fun s =>
   pT s d (fun z v w' S' t u x n=>wN l t (d.put n x e u) f (fun O' S'' a' w'' y A B=>i O' S'' a' w'' y A (n.trans B)))
  unfold Gb at h;unfold wpList
  cases c:o.guard with
  | none =>
   rw[c]at h;rw[ah (by simp[pu,c])]
   exact bW (run h)
  | some p =>
   obtain⟨j,want⟩:=p;rw[c]at h;simp only at h
   cases q:EG ops O j<;>rw[q]at h<;>try exact h.elim
   rename_i b;have g:=BW d q;by_cases k:b=want
   .rw[ah (by simp[pu,c,g,k])]
    exact bW (run (h.1 k))
   .rw[af (by simp[pu,c,g,k])]
    have m:b=!want:=by cases b<;>cases want<;>simp_all
    exact wN l (h.2 m) (d.put (dI.refl _ _) d.st e (by simp[bM])) f i
def wT(a:∀x,x∈o.op.operands.toList->ev O x=ev O' x)(h:AP o O S K):AP o O' S K:=by
 have j:∀l:List Operand,(∀x∈l,ev O x=ev O' x)->l.map (ev O)=l.map (ev O'):=fun l v=>me v;unfold AP at h ⊢;split at h
 .rename_i x b;rw[b]at a;simp only[Op.operands]at a;rw[<-a x sm];exact h
 .rename_i x b;rw[b]at a;simp only[Op.operands]at a;rw[<-a x sm];exact h
 .rename_i c x y b;rw[b]at a;simp only[Op.operands]at a;rw[<-a c sm,<-a x sm,<-a y sm];exact h
 .rename_i t b;exact h
 .rename_i t x b;rw[b]at a;simp only[Op.operands]at a;rw[<-a x sm];exact h
 .rename_i t ps b;rw[b]at a;simp only[Op.operands]at a;have:(ps.toList.map fun p=>(p.1,ev O p.2))=ps.toList.map fun p=>(p.1,ev O' p.2):=me fun p q=>by rw[a p.2 (by simp;exact⟨p.1,by simpa using q⟩)]
  rw[<-this];exact h
 .rename_i t n ps b;rw[b]at a;simp only[Op.operands]at a;have:(ps.toList.map fun p=>(p.1,ev O p.2))=ps.toList.map fun p=>(p.1,ev O' p.2):=me fun p q=>by rw[a p.2 (by simp;exact⟨p.1,by simpa using q⟩)]
  rw[<-this];exact h
 .rename_i t x b;rw[b]at a;simp only[Op.operands]at a;rw[<-a x sm];exact h
 .rename_i t x y b;rw[b]at a;simp only[Op.operands]at a;rw[<-a x sm,<-a y sm];exact h
 .rename_i x b;rw[b]at a;simp only[Op.operands]at a;rw[<-a x sm];exact h
 .rename_i op t x y _ b;rw[b]at a;simp only[Op.operands]at a;rw[<-a x sm,<-a y sm];exact h
 .rename_i op t x b;rw[b]at a;simp only[Op.operands]at a;rw[<-a x sm];exact h
 .rename_i s d x b;rw[b]at a;simp only[Op.operands]at a;rw[<-a x sm];exact h
 .rename_i f fi cs b;rw[b]at a;simp only[Op.operands]at a;rw[<-j cs.toList (fun x e=>a x (by simp;exact bQ (by simpa using e))),<-j fi.toList (fun x e=>a x (by simp;exact bW (by simpa using e)))];exact h
 .rename_i t x y b;rw[b]at a;simp only[Op.operands]at a;rw[<-a x sm,<-a y sm];exact h
 .rename_i t x lo w mx b;rw[b]at a;simp only[Op.operands]at a;have k:∀y:Option Operand,(∀z,y=some z->ev O z=ev O' z)->y.map (ev O)=y.map (ev O'):=fun y A=>by cases y<;>simp[A]
  rw[<-a x sm,<-k lo (fun z m=>a z (by subst m;simp)),<-k w (fun z m=>a z (by subst m;simp)),<-k mx (fun z m=>a z (by subst m;simp))];exact h
 .rename_i t x f b;rw[b]at a;simp only[Op.operands]at a;rw[<-a x sm];exact h
 .rename_i t x i b;rw[b]at a;simp only[Op.operands]at a;rw[<-a x sm,<-a i sm];exact h
 .rename_i t x i b;rw[b]at a;simp only[Op.operands]at a;rw[<-a x sm,<-a i sm];exact h
 .rename_i x i b;rw[b]at a;simp only[Op.operands]at a;rw[<-a x sm];exact h
 .rename_i c b;rw[b]at a;simp only[Op.operands,Call.operands]at a;have g:∀x∈c.args.toList,ev O x=ev O' x:=fun x e=>a x (by simp;exact bQ (by simpa using e))
  unfold ve at h ⊢;split at h
  .rename_i f B;rw[B]at a;simp only at a;rw[<-a f sm,<-j _ g];exact h
  .rename_i r;split at h
   .rename_i x t e u;rw[<-g x (by rw[e];simp)];exact h
   .exact h.elim
  .rename_i r;split at h
   .rename_i x y e;rw[<-g x (by rw[e];simp),<-g y (by rw[e];simp)];exact h
   .exact h.elim
  .rename_i r;split at h
   .rename_i s x t t' e u;rw[<-g x (by rw[e];simp),<-g s (by rw[e];simp)];exact h
   .exact h.elim
  .rename_i r;split at h
   .rename_i s x t t' e u;rw[<-g x (by rw[e];simp),<-g s (by rw[e];simp)];exact h
   .exact h.elim
  .exact h.elim
 .exact h.elim

def nr:TypeId->Option ft
 | 50=>some ⟨50,2,1,fun _=>.big 0⟩
 | 52=>some ⟨52,1,1,fun _=>.nil⟩
 | 167=>some ⟨167,2,2,fun _=>.big 0⟩
 | 218=>some ⟨218,1,2,fun j=>if j=0 then .nil else .int .i64 0⟩
 | _=>ab
def LM{t:TypeId}(h:nr t=some X):∃zc:Array Value,X.ty=t/\(∀w,(Instr.alloc t true (.tuple #[])).run ai w=.ok (.pointer (some ⟨w.heap.size,0,ab⟩)) (w.alloc (.cells zc t))) /\
  X.es*X.n<=zc.size/\(∀w M j,j<X.n->∃u,reads zc (X.es*j) X.es u/\bM w M (X.g j) u)/\∀(k:Nat) (y:Value),zc[k]? = some y->mc y:=by
 have key:∀(z':Value) (s b:Nat),mM ai t=some (z',s,b)->∃i,ai.info? t=some i/\i.zero=some z':=by
  intro z' s b e;unfold mM at e
  cases f:ai.info? t with
  | none=>rw[f]at e;simp at e
  | some i =>
   rw[f]at e;simp only[dJ,cW,il]at e;obtain⟨z2,m,o,G,H⟩:=e;exact⟨i,rfl,by rw[m,o]⟩
 have fin:∀(l:List AV) (vs:List Value) (z:Value) (s b:Nat),mM ai t=some (z,s,b)->z.cells=(vs.flatMap (fun u=>u.cells.toList)).toArray->(∀w M,a6 w M l vs)->(∀y∈l,eO X.es y)->X.ty=t->X.n=l.length->(∀j,j<l.length->X.g j=l.getD j .any) ->
   ∃zc:Array Value,X.ty=t/\(∀w,(Instr.alloc t true (.tuple #[])).run ai w=.ok (.pointer (some ⟨w.heap.size,0,ab⟩)) (w.alloc (.cells zc t))) /\
   X.es*X.n<=zc.size/\(∀w M j,j<X.n->∃u,reads zc (X.es*j) X.es u/\bM w M (X.g j) u)/\∀(k:Nat) (y:Value),zc[k]? = some y->mc y:=by
  intro l vs z s b A p r d B x C;obtain⟨i,f,v⟩:=key z s b A;refine⟨z.cells,B,fun w=>Cj f v w,?_,fun w M j a=>?_,fun k y c=>?_⟩
  .obtain⟨_,D,_,_⟩:=iQ l vs (r default (fun _=>False)) d;rw[p,ct,D,x];exact ae _
  .obtain⟨_,_,_,E⟩:=iQ l vs (r w M) d;rw[x]at a;obtain⟨u,m,o⟩:=E j a;refine⟨u,?_,by rw[C j a];exact m⟩
   have:=o z.cells 0 (fun q _=>by rw[p];simp)
   simpa using this
  .obtain⟨_,_,F,_⟩:=iQ l vs (r default (fun _=>False)) d;rw[p,fN]at c;exact(F y (fT c)).2
 have zb:∀w M,bM w M (.big 0) (.agg #[.bool false,.slice ab 0 0]):=fun w M=>by simp only[bM];exact eV.zero w
 unfold nr at h;split at h
 .cases h
  exact fin [.big 0] [.agg #[.bool false,.slice ab 0 0]] (.agg #[.bool false,.slice ab 0 0]) 2 32 kr rfl (fun w M=>by simp only[a6];exact⟨zb w M,trivial⟩) (fun y c=>by simp at c;subst c;simp[eO]) rfl rfl (fun j a=>by simp at a;subst a;rfl)
 .cases h
  exact fin [.nil] [.slice ab 0 0] (.slice ab 0 0) 1 24 kr rfl (fun w M=>by simp[a6,bM]) (fun y c=>by simp at c;subst c;simp[eO]) rfl rfl (fun j a=>by simp at a;subst a;rfl)
 .cases h
  exact fin (bZ 2 (.big 0)) (bZ 2 (.agg #[.bool false,.slice ab 0 0])) (.agg #[.bool false,.slice ab 0 0,.bool false,.slice ab 0 0]) 4 64 kr rfl (fun w M=>kI (zb w M) 2) (fun y c=>by rw[gN c];simp[eO]) rfl rfl
   (fun j a=>(Ak (by rw[lv]at a;exact a) _ _).symm)
 .cases h
  exact fin [.nil,.int .i64 0] [.slice ab 0 0,.int .i64 0] (.agg #[.slice ab 0 0,.int .i64 0]) 2 32 kr rfl (fun w M=>by simp[a6,bM]) (fun y c=>by simp at c;rcases c with rfl|rfl<;>simp[eO]) rfl rfl
   (fun j a=>by match j with
    | 0=>rfl
    | 1=>rfl
    | j+2=>exact absurd a (by simp only[cA,fY];omega))
 .cases h
mutual
def qZ:AV->Bool
 | .int ..=>true
 | .bool _=>true
 | .big _=>true
 | .nil=>true
 | .sl ..=>true
 | .ptr ..=>true
 | .mag _=>true
 | .fp ..=>true
 | .bset _=>true
 | .any=>true
 | .nfn=>true
 | .mfn _ l=>Bv l
 | .tup l=>Bv l
 | .agg l=>Bv l
 | .fn _ l=>Bv l
 | .lst ..=>false
 | .pat ..=>false
def Bv:List AV->Bool
 | []=>true
 | x::l=>qZ x&&Bv l
end
mutual
theorem uC{w:World}{M M':Nat->Prop}:∀{x:AV} {v:Value},qZ x=true->bM w M x v->bM w M' x v
 | .int ..,v,_,a=>by simpa [bM]using a
 | .bool _,v,_,a=>by simpa [bM]using a
 | .big _,v,_,a=>by simpa [bM]using a
 | .nil,v,_,a=>by simpa [bM]using a
 | .sl ..,v,_,a=>by simpa [bM]using a
 | .ptr ..,v,_,a=>by simpa [bM]using a
 | .mag _,v,_,a=>by simpa [bM]using a
 | .fp ..,v,_,a=>by simpa [bM]using a
 | .bset _,v,_,a=>by simpa [bM]using a
 | .any,v,_,a=>by simp[bM]
 | .nfn,v,_,a=>by simpa [bM]using a
 | .mfn f l,v,h,a=>by
  simp only[qZ]at h;simp only[bM]at a ⊢;obtain⟨vs,b,c⟩:=a;exact⟨vs,b,rC h c⟩
 | .tup l,v,h,a=>by
  simp only[qZ]at h;simp only[bM]at a ⊢;obtain⟨vs,b,c⟩:=a;exact⟨vs,b,rC h c⟩
 | .agg l,v,h,a=>by
  simp only[qZ]at h;simp only[bM]at a ⊢;obtain⟨vs,b,c⟩:=a;exact⟨vs,b,rC h c⟩
 | .fn f l,v,h,a=>by
  simp only[qZ]at h;simp only[bM]at a ⊢;obtain⟨vs,b,c⟩:=a;exact⟨vs,b,rC h c⟩
 | .lst ..,v,h,_=>by simp[qZ]at h
 | .pat ..,v,h,_=>by simp[qZ]at h
theorem rC{w:World}{M M':Nat->Prop}:∀{l:List AV} {vs:List Value},Bv l=true->a6 w M l vs->a6 w M' l vs
 | [],[],_,_=>by simp[a6]
 | x::l,v::vs,h,a=>by
  simp only[Bv,ay]at h;simp only[a6]at a ⊢;exact⟨uC h.1 a.1,rC h.2 a.2⟩
 | [],_::_,_,a=>by simp[a6]at a
 | _::_,[],_,a=>by simp[a6]at a
end
def BK:Nat->Prop:=fun _=>False
def Fq:Op->Bool
 | .move _=>true
 | .assign _=>true
 | .pick ..=>true
 | .build ..=>true
 | .load ..=>true
 | .nilCheck _=>true
 | .binOp ..=>true
 | .unOp ..=>true
 | .convert ..=>true
 | .makeFunc ..=>true
 | .slice ..=>true
 | .fieldAddr ..=>true
 | .indexAddr ..=>true
 | .extract ..=>true
 | .call { callee:=.builtin .len,.. }=>true
 | _=>false
def vB(f:Nat)(args:List AV)(S:St)(z:AV):Prop :=
 ∀(w:World) (vs:List Value),fI w S->a6 w S.dom args vs->Calls ai f vs.toArray w (fun e w'=>∃v,e=.returned v/\bM w' S.dom z v/\dI BK BK w w')
def BP(o:Oper)(O:Tm)(S:St)(z:AV):Prop:=(Fq o.op=true/\AP o O S (fun z' S'=>z'=z/\S'=S)) ∨
 (match o.op with
 | .call c=>(match c.callee with
  | .value f=>(match ev O f with
   | .fn f l=>((11<=f/\f<270)/\f≠252/\f≠253)/\vB f (c.args.toList.map (ev O)++l) S z
   | _=>False)
  | _=>False)
 | .buildSlice t n ps=>fz t n (ps.toList.map fun p=>(p.1,ev O p.2)) z
 | _=>False)
def OA(j:Fq o.op=true){O:Tm}{S:St}{K:AV->St->Prop}(h:AP o O S K){N:Nat}{a:Act}{w:World}(g:RT O S N a w) :
  ∃z v,K z S/\bM w S.dom z v/\(execOp a.eval o).run ai w=.ok (.value v) w:=by
 have pure_:∀(s:Sem Value),(execOp a.eval o=do let x <-s;pure (.value x))->(∃z u,K z S/\bM w S.dom z u/\s.run ai w=.ok u w)->∃z v,K z S/\bM w S.dom z v/\(execOp a.eval o).run ai w=.ok (.value v) w:=by
  intro s J ⟨z,u,r,A,C⟩;exact⟨z,u,r,A,by rw[J];simp[C]⟩
 unfold AP at h;split at h
 .rename_i x e;exact⟨_,_,h,g.ev x,by simp[execOp,e]⟩
 .rename_i x e;exact⟨_,_,h,g.ev x,by simp[execOp,e]⟩
 .rename_i c x y e;have B:=g.ev c
  cases D:ev O c<;>rw[D]at h B<;>try exact h.elim
  rename_i t;simp only[bM]at B;refine⟨_,if t then a.eval x else a.eval y,h,?_,by simp[execOp,e,B,asBool]⟩
  cases t
  .exact g.ev y
  .exact g.ev x
 .rename_i t e;rw[e]at j;simp[Fq]at j
 .rename_i t x e;rw[e]at j;simp[Fq]at j
 .rename_i t ps e;obtain⟨z,u,r,A,C⟩:=vf h (rT g ps.toList);exact⟨z,u,r,A,by rw[An e,C];rfl⟩
 .rename_i t n ps e;rw[e]at j;simp[Fq]at j
 .rename_i t x e;exact pure_ (Instr.loadAt t (a.eval x)) (by simp[execOp,e]) (rQ h g.st (g.ev x))
 .rename_i t x y e;rw[e]at j;simp[Fq]at j
 .rename_i x e;have k:=g.ev x
  cases p:ev O x<;>rw[p]at h k<;>try exact h.elim
  .have q:=k;simp only[bM]at k;exact⟨_,a.eval x,h,q,by simp[execOp,e,k]⟩
  .have q:=k;simp only[bM]at k;obtain⟨b,off,u,k,_⟩:=k;exact⟨_,a.eval x,h,q,by simp[execOp,e,k]⟩
 .rename_i op t x y _ e;have:=AS (ty:=t) h (g.ev x) (g.ev y) x y;exact pure_ (do eqGuard op t x y (a.eval x) (a.eval y);binOp op t (a.eval x) (a.eval y)) (by simp[execOp,e]) this
 .rename_i op t x e;exact pure_ (Op.unary op (a.eval x)) (by simp[execOp,e]) (CM h (g.ev x))
 .rename_i s d x e;exact pure_ (convert s d (a.eval x)) (by simp[execOp,e]) (xX h (g.ev x))
 .rename_i f fi cs e;obtain⟨z,r,A⟩:=uX h g;exact⟨_,.func (.func f) (fi.map a.eval) (cs.map a.eval),r,A,by simp[execOp,e,Instr.makeFunc]⟩
 .rename_i t x y e;rw[e]at j;simp[Fq]at j
 .rename_i t x lo I mx e;exact pure_ (Instr.sliceAt t (a.eval x) (lo.map a.eval) (I.map a.eval) (mx.map a.eval)) (by simp[execOp,e]) (uW h (g.ev x) (pV g lo) (pV g I) (pV g mx))
 .rename_i t x f e;exact pure_ (Instr.fieldAt t (a.eval x) f) (by simp[execOp,e]) (uZ h (g.ev x))
 .rename_i t x i e;exact pure_ (Instr.indexAt t (a.eval x) (a.eval i)) (by simp[execOp,e]) (uY h (g.ev x) (g.ev i))
 .rename_i t x i e;rw[e]at j;simp[Fq]at j
 .rename_i x i e;have k:=g.ev x
  cases p:ev O x<;>rw[p]at h k<;>try exact h.elim
  rename_i l;simp only at h
  cases E:l[i]? with
  | none=>rw[E]at h;exact h.elim
  | some z =>
   rw[E]at h;simp only[bM]at k;obtain⟨vs,k,F⟩:=k;obtain⟨v,L,M⟩:=vu l vs F i z E;exact⟨_,v,h,M,by simp[execOp,e,Instr.extract,k,L]⟩
 .rename_i c e;unfold ve at h;split at h
  .rename_i f m;obtain⟨ce,ar,at_⟩:=c;simp only at m;subst m;rw[e]at j;simp[Fq]at j
  .rename_i B;split at h
   .rename_i x t k P;have G:c.args=#[x]:=by apply gS;simpa using k
    have H:c.argTypes=#[t]:=by apply gS;simpa using P
    exact pure_ (Builtin.len_ #[t] o.type #[a.eval x]) (by simp[execOp,e,resolve,B,invoke,builtin,G,H]) (AQ h (g.ev x))
   .exact h.elim
  .rename_i m;obtain⟨ce,ar,at_⟩:=c;simp only at m;subst m;rw[e]at j;simp[Fq]at j
  .rename_i m;obtain⟨ce,ar,at_⟩:=c;simp only at m;subst m;rw[e]at j;simp[Fq]at j
  .rename_i m;obtain⟨ce,ar,at_⟩:=c;simp only at m;subst m;rw[e]at j;simp[Fq]at j
  .exact h.elim
 .exact h.elim
def CV(h:BP o O S z){N:Nat}{a:Act}{w:World}(d:RT O S N a w){next:Act->World->Prop}{Q:Exit->Act->World->Prop}
  (k:∀v w',bM w' S.dom z v->dI BK BK w w'->next (a.put o.dst v) w'):o.wp ai a w next Q:=by
 rcases h with⟨y,h⟩|h
 .obtain⟨z',v,⟨rfl,_⟩,i,m⟩:=OA y h d;exact iA m (k v w i (dI.refl _ _))
 .split at h
  .rename_i c p;split at h
   .rename_i f A;have b:=d.ev f
    cases q:ev O f<;>rw[q]at h b<;>try exact h.elim
    rename_i g l;simp only[bM]at b;obtain⟨vs,r,s⟩:=b;obtain⟨B,u⟩:=h;have j:(execOp a.eval o).run ai w=.ok (.enter g (c.args.map a.eval++vs.toArray)) w:=by
     simp[execOp,p,resolve,A,Deferred.ofValue,r,invoke,NX B]
    unfold Oper.wp;rw[j];have hargs:(c.args.map a.eval++vs.toArray)=(c.args.toList.map a.eval++vs).toArray:=by apply gS;simp
    rw[hargs];refine(u w _ d.st (oY _ _ _ _ (pW d _) s)).mono ?_;rintro e w' ⟨v,rfl,x,i⟩;exact k v w' x i
   .exact h.elim
  .rename_i t n ps p;obtain⟨v,w',x,i,m⟩:=uK h d.st (rT d ps.toList);exact iA (by rw[qP p,x];rfl) (k v w' i m)
  .exact h.elim
def sA(a:∀x,x∈o.op.operands.toList->ev O x=ev O' x)(h:BP o O S z):BP o O' S z:=by
 rcases h with⟨e,h⟩|h
 .exact bW ⟨e,wT a h⟩
 .refine bQ ?_;split at h
  .rename_i c b;rw[b]at a;simp only[Op.operands,Call.operands]at a;split at h
   .rename_i f g;rw[g]at a;simp only at a;have d:c.args.toList.map (ev O)=c.args.toList.map (ev O'):=me fun x i=>a x (by simp;exact bQ (by simpa using i))
    rw[<-a f sm,<-d];exact h
   .exact h.elim
  .rename_i t n ps b;rw[b]at a;have d:(ps.toList.map fun p=>(p.1,ev O p.2))=ps.toList.map fun p=>(p.1,ev O' p.2):=me fun p j=>by
    rw[a p.2 (by simp only[Op.operands];simp;exact⟨p.1,by simpa using j⟩)]
   rw[<-d];exact h
  .exact h.elim
def GJ:List Oper->Tm->St->List (Nat×ft)->(Tm->List (Nat×ft)->Prop)->Prop
 | [],O,_,pend,K=>K O pend
 | o::l,O,S,pend,K=>(match o.op,o.dst with
  | .alloc t,some d=>(match nr t with
   | some X=>GJ l (O.put (some d) .any) S (pend++[(d,X)]) K
   | ab=>False)
  | _,_=>∃z,BP o O S z/\GJ l (O.put o.dst z) S pend K)
def oV:List (Nat×ft)->Tm->St->(Tm->St->Prop)->Prop
 | [],O,S,K=>K O S
 | (d,X)::r,O,S,K=>∀b,S b=ab->oV r (O.put (some d) (.ptr X.es b 0)) (S.upd b X) K
def As(ds:List Nat)(O:Tm):Tm:=fun t=>if ds.contains t&&!qZ (O t)then .any else O t
def qu(l:List Oper):List Nat:=l.filterMap (·.dst)
def looks(o:Oper):List Nat:=o.op.operands.toList.filterMap fun
 | .tmp t=>some t
 | _=>ab
def aft(o:Oper):List Nat:=(o.after.toList.filter (Region.binds .any)).map (·.on)
def uf(ops:Array Oper):Nat->Nat->Nat->Bool
 | 0,_,_=>false
 | f+1,j,i=>(match ops[i]? with
  | some o=>(aft o).contains j||(aft o).any (fun k=>Nat.ble j k&&uf ops f j k)
  | ab=>false)
theorem CI:∀(l:List Oper) (O:Tm) (S:St) (pend:List (Nat×ft)) (K:Tm->List (Nat×ft)->Prop),GJ l O S pend K ->
  ∃(Os:Nat->Tm) (al:Nat->Option ft),Os 0=O/\K (Os l.length) (pend++(et l.length).filterMap (fun i=>(al i).bind fun X=>(l[i]?).bind fun o=>o.dst.map fun d=>(d,X))) /\
   ∀i o,l[i]? = some o->(∃t d X,o.op=.alloc t/\o.dst=some d/\nr t=some X/\al i=some X/\Os (i+1)=(Os i).put (some d) .any) ∨
    (al i=ab/\∃z,BP o (Os i) S z/\Os (i+1)=(Os i).put o.dst z)
 | [],O,S,pend,K,h=>⟨fun _=>O,fun _=>ab,rfl,by simpa [GJ]using h,fun i o c=>by simp at c⟩
 | o::l,O,S,pend,K,h=>by
  have glue:∀(x:Option ft) (O1:Tm) (pend1:List (Nat×ft)),(pend1=pend++(x.bind fun X=>o.dst.map fun d=>(d,X)).toList)->GJ l O1 S pend1 K ->
    ((∃t d X,o.op=.alloc t/\o.dst=some d/\nr t=some X/\x=some X/\O1=O.put (some d) .any)∨(x=ab/\∃z,BP o O S z/\O1=O.put o.dst z)) ->
    ∃(Os:Nat->Tm) (al:Nat->Option ft),Os 0=O/\K (Os (o::l).length) (pend++(et (o::l).length).filterMap (fun i=>(al i).bind fun X=>((o::l)[i]?).bind fun o=>o.dst.map fun d=>(d,X))) /\
     ∀i o',(o::l)[i]? = some o'->(∃t d X,o'.op=.alloc t/\o'.dst=some d/\nr t=some X/\al i=some X/\Os (i+1)=(Os i).put (some d) .any) ∨
      (al i=ab/\∃z,BP o' (Os i) S z/\Os (i+1)=(Os i).put o'.dst z):=by
   intro x O1 pend1 k e m;obtain⟨Os,al,n,b,p⟩:=CI l O1 S pend1 K e;refine⟨fun i=>match i with|0=>O|i+1=>Os i,fun i=>match i with|0=>x|i+1=>al i,rfl,?_,fun i o' c=>?_⟩
   .simp only[cA];rw[k]at b;rw[List.range_succ_eq_map,Bk,List.filterMap_map];have q:(fun i=>((al i).bind fun X=>(l[i]?).bind fun o=>o.dst.map fun d=>(d,X)))=((fun i=>(match i with|0=>x|i+1=>al i:Option ft).bind fun X=>((o::l)[i]?).bind fun o=>o.dst.map fun d=>(d,X))∘Nat.succ):=by
     funext i;simp
    rw[<-q]
    cases a:(x.bind fun X=>o.dst.map fun d=>(d,X))with
    | none=>rw[a]at b;simp only[Option.toList_none,xa]at b;simp only[c9,dJ];rw[a];exact b
    | some y=>rw[a]at b;simp only[U9,EJ,Ud]at b;simp only[c9,dJ];rw[a];exact b
   .cases i with
    | zero =>
     simp at c;subst c;simp only[n];exact m
    | succ i =>
     simp only[cn]at c;exact p i o' c
  unfold GJ at h;split at h
  .rename_i t d f j
   cases g:nr t with
   | none=>rw[g]at h;exact h.elim
   | some X =>
    rw[g]at h;exact glue (some X) _ _ (by rw[j];rfl) h (bW ⟨t,d,X,f,j,g,rfl,rfl⟩)
  .obtain⟨z,r,e⟩:=h;exact glue ab _ _ sm e (bQ ⟨rfl,z,r,rfl⟩)

def mH(h:i∈kX .any ops listed):∃o,ops[i]? = some o/\listed.getD i true=false/\∀k∈aft o,listed.getD k false=true:=by
 simp only[kX,qb,fS,ay,lE]at h;obtain⟨d,f,a⟩:=h;have b:ops[i]? = some ops[i]:=cF d;rw[b]at a;refine⟨ops[i],b,f,fun k c=>?_⟩;simp only[cV,gA]at a;simp only[aft,im,qb]at c;obtain⟨e,⟨g,j⟩,rfl⟩:=c;have:=(EN.1 a) e (by simpa using g)
 simpa [j]using this
def M3(a:ops[i]? = some o)(c:listed.getD i true=false)(d:∀k∈aft o,listed.getD k false=true):i∈kX .any ops listed:=by
 have f:i<ops.size:=(er.1 a).1;simp only[kX,qb,fS,ay,lE];refine⟨f,c,?_⟩;rw[a];simp only[cV,gA];refine EN.2 fun e g=>?_;by_cases b:Region.binds .any e=true
 .have:=d e.on (by simp only[aft,im,qb];exact⟨e,⟨by simpa using g,b⟩,rfl⟩)
  rw[this];simp
 .simp[b]
def Uo(listed:Array Bool):Nat:=listed.toList.countP (·==false)
def Ji(h:listed.getD i true=false):Uo (listed.setIfInBounds i true)+1=Uo listed:=by
 have a:i<listed.size:=by
  rcases aF i listed.size with b|b
  .exact b
  .rw[cQ,eN b]at h;cases h
 have c:listed.toList[i]'(by simpa using a)=false:=by
  rw[cQ,cF a]at h;simpa using h
 simp only[Uo,Array.toList_setIfInBounds];rw[List.countP_set (by simpa using a),c]
 have:0<listed.toList.countP (·==false):=List.countP_pos_iff.2 ⟨false,by rw[<-c];exact GM _,rfl⟩
 rw[ah (by rfl),af dc]
 omega
def mK(listed:Array Bool)(i k:Nat)(d:Bool)(a:i<listed.size):(listed.setIfInBounds i true).getD k d=if k=i then true else listed.getD k d:=by
 simp only[cQ];by_cases e:k=i
 .subst e;simp[a]
 .rw[af e,d5 (aj e)]
theorem qe{ops:Array Oper}{Q:Exit->Act->World->Prop}(I:Array Bool->Act->World->Prop)
  (hstep:∀listed a w i,I listed a w->i∈kX .any ops listed->wpOp ai ops Q i (fun a' w'=>I (listed.setIfInBounds i true) a' w') a w)
  (b:∀listed a w,I listed a w->kX .any ops listed=[]->Q .normal a w) :
  ∀fuel listed a w,Uo listed<=fuel->I listed a w->wpAny ai .any ops Q fuel listed a w
 | 0,listed,a,w,g,c=>by
  have d:kX .any ops listed=[]:=by
   cases d:kX .any ops listed with
   | nil=>rfl
   | cons x xs =>
    obtain⟨o,_,e,_⟩:=mH (i:=x) (by rw[d];exact eU ..)
    have:=Ji e;omega
  exact⟨d,b listed a w c d⟩
 | fuel+1,listed,a,w,g,c=>by
  refine⟨b listed a w c,fun i f=>?_⟩;obtain⟨o,_,e,_⟩:=mH f;have j:=Ji e;exact wpOp_mono (fun a' w' h=>qe I hstep b fuel _ a' w' om h) (hstep listed a w i c f)
def xl(ops:Array Oper)(listed:Array Bool):Prop:=∀(i:Nat) (o:Oper),ops[i]? = some o->listed.getD i false=true->∀k∈aft o,listed.getD k false=true
theorem ue{ops:Array Oper}{listed:Array Bool}(b:xl ops listed):∀(f j i:Nat) (o:Oper),ops[i]? = some o->(∀k∈aft o,listed.getD k false=true)->uf ops f j i=true->listed.getD j false=true
 | 0,_,_,_,_,_,h=>by simp[uf]at h
 | f+1,j,i,o,d,c,h=>by
  simp only[uf,d,eX]at h;rcases h with h|h
  .exact c j (by simpa using h)
  .obtain⟨k,e,h⟩:=Vu.1 h
   replace h:=(ay _ _▸h:_/\_).2
   cases f with
   | zero=>simp[uf]at h
   | succ f =>
    cases a:ops[k]? with
    | none=>simp[uf,a]at h
    | some ok=>exact ue b (f+1) j k ok a (b k ok a (c k e)) h
def mG(h:l[i]? = some o):(o,i)∈l.zipIdx:=by
 rw[List.mem_zipIdx_iff_getElem?];exact h
def uD(h:∀t∈looks o,O t=O' t):∀x,x∈o.op.operands.toList->ev O x=ev O' x:=by
 intro x a
 cases x with
 | tmp t=>exact h t (by simp only[looks,Vf];exact⟨.tmp t,a,rfl⟩)
 | const v=>rfl
 | global g=>rfl
 | func f=>rfl
def fI.fresh(h:fI w S){b:Nat}(c:w.heap.size<=b):S b=ab:=by
 cases e:S b with
 | none=>rfl
 | some X=>obtain⟨cs,a,_⟩:=h b X e;exact absurd (gJ a) om

mutual
theorem bM.turn{M M':Nat->Prop}{w:World}(o:∀k,k<w.heap.size->M' k->M k):∀(a:AV) (v:Value),bM w M a v->bM w M' a v
 | .int k n,v,h=>by simpa [bM]using h
 | .bool b,v,h=>by simpa [bM]using h
 | .big z,v,h=>by simpa [bM]using h
 | .nil,v,h=>by simpa [bM]using h
 | .sl es b off len,v,h=>by simpa [bM]using h
 | .ptr es b i,v,h=>by simpa [bM]using h
 | .lst es n g,v,h=>by
  simp only[bM]at h ⊢;obtain⟨A,c,d,m,C⟩:=h;refine⟨A,c,d,m,fun D=>?_⟩;obtain⟨b,off,e,s,q,E⟩:=C D;refine⟨b,off,e,s,fun r=>q (o b s r),fun j t=>?_⟩;obtain⟨u,y,B⟩:=E j t;exact⟨u,y,bM.turn o (g j) u B⟩
 | .pat es x,v,h=>by
  simp only[bM]at h ⊢;obtain⟨b,off,u,d,s,q,y,F⟩:=h;exact⟨b,off,u,d,s,fun r=>q (o b s r),y,bM.turn o x u F⟩
 | .tup l,v,h=>by
  simp only[bM]at h ⊢;obtain⟨vs,d,m⟩:=h;exact⟨vs,d,a6.turn o l vs m⟩
 | .agg l,v,h=>by
  simp only[bM]at h ⊢;obtain⟨vs,d,m⟩:=h;exact⟨vs,d,a6.turn o l vs m⟩
 | .fn f l,v,h=>by
  simp only[bM]at h ⊢;obtain⟨vs,d,m⟩:=h;exact⟨vs,d,a6.turn o l vs m⟩
 | .mag n,v,h=>by simpa [bM]using h
 | .fp b i f,v,h=>by simpa [bM]using h
 | .bset p,v,h=>by simpa [bM]using h
 | .any,v,h=>by simp[bM]
 | .nfn,v,h=>by simpa [bM]using h
 | .mfn f l,v,h=>by
  simp only[bM]at h ⊢;obtain⟨vs,d,m⟩:=h;exact⟨vs,d,a6.turn o l vs m⟩
theorem a6.turn{M M':Nat->Prop}{w:World}(b:∀k,k<w.heap.size->M' k->M k):∀(l:List AV) (vs:List Value),a6 w M l vs->a6 w M' l vs
 | [],[],_=>by simp[a6]
 | a::l,v::vs,h=>by
  simp only[a6]at h ⊢;exact⟨bM.turn b a v h.1,a6.turn b l vs h.2⟩
 | [],_::_,h=>by simp[a6]at h
 | _::_,[],h=>by simp[a6]at h
end
def dI.any(h:dI BK BK w w')(M:Nat->Prop):dI M M w w':=⟨h.os,h.tape,h.output,h.size,fun k a _=>h.keep k a (fun x=>x),h.shape,fun _ _ h=>h⟩
def fI.frozen(h:fI w S)(a:dI BK BK w w'):fI w' S:=fun b X d=>by
 obtain⟨cs,c,e,f,g⟩:=h b X d;exact⟨cs,(a.keep b (gJ c) (fun x=>x)).trans c,e,fun j i=>by obtain⟨u,k,l⟩:=f j i;exact⟨u,k,bM.grow h.noU (a.any _) _ _ l⟩,g⟩
def Ss(w:World)(M:Nat->Prop)(S:St):Prop:=∀b x,S b=some x->∃cs,w.heap[b]? = some (.cells cs x.ty (0,0))/\x.es*x.n<=cs.size /\
 (∀j,j<x.n->∃u,reads cs (x.es*j) x.es u/\bM w M (x.g j) u)/\∀(k:Nat) (y:Value),cs[k]? = some y->mc y
def ZX(X:ft)(zc:Array Value):Prop:=X.es*X.n<=zc.size/\(∀w M j,j<X.n->∃u,reads zc (X.es*j) X.es u/\bM w M (X.g j) u)/\∀(k:Nat) (y:Value),zc[k]? = some y->mc y
theorem xV{w:World}{a:Act}{N B0:Nat}{M:Nat->Prop}{K:Tm->St->Prop}:∀(L:List (Nat×ft×Nat)) (O:Tm) (S:St),oV (L.map fun x=>(x.1,x.2.1)) O S K ->
  Ss w M S->(∀t,bM w M (O t) (a.tmps.getD t undef))->(∀x∈L,a.tmps.getD x.1 undef=.pointer (some ⟨x.2.2,0,ab⟩)/\∃zc,w.heap[x.2.2]? = some (.cells zc x.2.1.ty (0,0))/\ZX x.2.1 zc) ->
  (L.map (·.2.2)).Nodup->(∀x∈L,S x.2.2=ab/\B0<=x.2.2) ->
  ∃O' S',K O' S'/\Ss w M S'/\(∀t,bM w M (O' t) (a.tmps.getD t undef))/\∀k,S'.dom k->S.dom k∨B0<=k
 | [],O,S,h,i,l,_,_,_=>⟨O,S,by simpa [oV]using h,i,l,fun k m=>bW m⟩
 | (d,X,b)::L,O,S,h,i,l,o,n,p=>by
  simp only[cU,oV]at h;obtain⟨q,zc,r,s,u,v⟩:=o (d,X,b) (eU ..);obtain⟨y,z⟩:=p (d,X,b) (eU ..);simp only at q r s u v y z;simp only[cU,wY]at n;obtain⟨O',S',A,B,C,D⟩:=xV (B0:=B0) (N:=N) L (O.put (some d) (.ptr X.es b 0)) (S.upd b X) (h b y)
   (fun k Y c=>by
    simp only[St.upd]at c;by_cases e:k=b
    .rw[ah e]at c;cases c;subst e;exact⟨zc,r,s,fun j E=>u w M j E,v⟩
    .rw[af e]at c;exact i k Y c)
   (fun t=>by
    simp only[Tm.put_eq];by_cases e:t=d
    .subst e;rw[ah rfl,q];simp[bM]
    .rw[af e];exact l t)
   (fun x g=>o x (d9 _ g)) n.2
   (fun x g=>by
    obtain⟨F,G⟩:=p x (d9 _ g);refine⟨?_,G⟩;simp only[St.upd];rw[af]
    .exact F
    .intro e;exact n.1 (by rw[<-e];exact im.2 ⟨x,g,rfl⟩))
  refine⟨O',S',A,B,C,fun k m=>?_⟩;rcases D k m with f|f
  .simp only[St.dom,St.upd]at f ⊢;by_cases e:k=b
   .right;rw[e];exact z
   .rw[af e]at f;exact bW f
  .exact bQ f
def wo(h:d≠some t):(a.put d v).tmps.getD t undef=a.tmps.getD t undef:=by
 cases d with
 | none=>rfl
 | some d =>
  simp only[Act.put,cQ];rw[d5 (fun e=>h (by rw[e]))]
def put_eq{d:Nat}(h:d<a.tmps.size):(a.put (some d) v).tmps.getD d undef=v:=by
 simp[Act.put,Array.getD,h]
def zS:(a.put d v).tmps.size=a.tmps.size:=by cases d<;>simp[Act.put]
def tv:(a.put d v).defers=a.defers:=by cases d<;>simp[Act.put]

def NL(l:List Oper)(q j:Nat):Bool:=decide (j<q)&&(match l[j]? with
 | some o=>Fq o.op&&(match o.dst with
  | some d=>(l.zipIdx.drop q).all (fun p=>(match p.1.dst with
    | some t=>!(looks o).contains t&&decide (t≠d)
    | ab=>true)&&(!(looks p.1).contains d||(aft p.1).contains j))
  | _=>false)
 | ab=>false)
def NK(l:List Oper)(j:Nat):Bool:=match l[j]? with
 | some o=>(match o.op with
  | .move _=>true
  | _=>false)
 | ab=>false
def DF:List (List Nat)->List Nat
 | []=>[]
 | js::_=>js
def NI:List (List Nat)->List (List Nat)
 | []=>[]
 | [js]=>[js]
 | _::r=>r
def Ib(jss:List (List Nat)):Nat->List (List Nat)
 | 0=>jss
 | k+1=>NI (Ib jss k)
def xO(ops:Array Oper)(q:Nat)(jss:List (List Nat))(mv:Bool):Bool :=
 let l:=ops.toList
 l.all (fun o=>o.guard.isNone) &&
 l.zipIdx.all (fun p=>(aft p.1).all (fun k=>decide (k<p.2))) &&
 (l.take q).zipIdx.all (fun p=>(l.take q).zipIdx.all (fun r=>match r.1.dst with
  | some t=>!(looks p.1).contains t||(decide (r.2<p.2)&&(aft p.1).contains r.2)
  | ab=>true)) &&
 (l.take q).zipIdx.all (fun p=>(l.take q).zipIdx.all (fun r=>decide (p.2=r.2)||p.1.dst.isNone||p.1.dst != r.1.dst)) &&
 (l.zipIdx.drop q).all (fun p=>(et p.2).all (fun j=>(aft p.1).contains j||(((DF (Ib jss (p.2-q))).contains j||(mv&&NK l j))&&NL l q j)||uf ops 12 j p.2)) &&
 decide (q<=l.length)
def nm(ops:List Oper)(O:Tm)(S:St):List Nat->Prop
 | []=>True
 | j::js=>(match ops[j]? with
  | some o=>(match o.dst with
   | some d=>BP o O S (O d)
   | ab=>False)
  | ab=>False)/\nm ops O S js
def Q0(ops:List Oper):List (List Nat)->List Oper->Tm->St->(Tm->St->Prop)->Prop
 | _,[],O,S,K=>K O S
 | jss,o::l,O,S,K=>AP o O S (fun z S'=>nm ops (O.put o.dst z) S' (DF jss)/\Q0 ops (NI jss) l (O.put o.dst z) S' K)
def tlX(ops:Array Oper)(jss:List (List Nat))(l:List Oper)(O:Tm)(S:St)(K:Tm->St->Prop):Prop:=(jss=[]/\Gb ops l O S K)∨Q0 ops.toList jss l O S K
def awX(ops:Array Oper)(O:Tm)(S:St)(K:Tm->St->Prop):Prop:=∃q jss mv H,xO ops q jss mv=true/\GJ (ops.toList.take q) O S [] H/\∀O' p,H O' p ->
 (p.isEmpty=true/\tlX ops jss (ops.toList.drop q) O' S K) ∨
 (mv=false/\∃K',oV p (As (qu (ops.toList.take q)) O') S K'/\∀O S,K' O S->nm ops.toList O S (DF jss)/\tlX ops jss (ops.toList.drop q) O S K)
theorem tE{ops:List Oper}{O:Tm}{S:St}:∀{js:List Nat},nm ops O S js->∀j∈js,∃o d,ops[j]? = some o/\o.dst=some d/\BP o O S (O d)
 | [],_,j,b=>by cases b
 | i::js,h,j,b=>by
  simp only[nm]at h;rcases ed.1 b with rfl|b
  .have a:=h.1
   cases e:ops[j]? with
   | none=>rw[e]at a;exact a.elim
   | some o =>
    rw[e]at a;simp only at a
    cases c:o.dst with
    | none=>rw[c]at a;exact a.elim
    | some d=>rw[c]at a;exact⟨o,d,rfl,c,a⟩
  .exact tE h.2 j b
def Uf{S':St}(c:l[j]? = some o)(a:NK l j=true)(h:BP o O S z):BP o O S' z:=by
 simp only[NK,c]at a;split at a
 .rename_i x b;rcases h with⟨d,h⟩|h
  .refine bW ⟨d,?_⟩;unfold AP at h ⊢;rw[b]at h ⊢;exact⟨h.1,rfl⟩
  .rw[b]at h;exact h.elim
 .cases a
structure xe(ops:Array Oper)(q j:Nat)(o:Oper)(d:Nat):Prop where
 lt:j<q
 op:ops[j]? = some o
 dst:o.dst=some d
 pure:Fq o.op=true
 tail:∀(i:Nat) (p:Oper),q<=i->ops[i]? = some p->(∀t,p.dst=some t->t ∉ looks o/\t≠d)/\(d∈looks p->j∈aft p)
structure GOK(ops:Array Oper)(q:Nat)(jss:List (List Nat))(mv:Bool):Prop where
 guard:∀(i:Nat) (o:Oper),ops[i]? = some o->o.guard=ab
 back:∀(i:Nat) (o:Oper),ops[i]? = some o->∀k∈aft o,k<i
 reads:∀(i:Nat) (o:Oper) (j:Nat) (p:Oper) (t:Nat),i<q->j<q->ops[i]? = some o->ops[j]? = some p->p.dst=some t->t∈looks o->j<i/\j∈aft o
 apart:∀(i:Nat) (o:Oper) (j:Nat) (p:Oper) (t:Nat),i<q->j<q->ops[i]? = some o->ops[j]? = some p->o.dst=some t->p.dst=some t->i=j
 tail:∀(i:Nat) (o:Oper),q<=i->ops[i]? = some o->∀j,j<i->(j∈aft o∨uf ops 12 j i=true)∨((j∈DF (Ib jss (i-q))∨mv=true/\NK ops.toList j=true)/\∃p d,xe ops q j p d)
 le:q<=ops.size
def Ij(h:xO ops q jss mv=true):GOK ops q jss mv:=by
 simp only[xO,ay,dj]at h;obtain⟨⟨⟨⟨⟨y,z⟩,A⟩,B⟩,C⟩,D⟩:=h;have gl:∀{i:Nat} {o:Oper},ops[i]? = some o->ops.toList[i]? = some o:=fun h=>by simpa using h
 have tk:∀{i:Nat} {o:Oper},i<q->ops[i]? = some o->(o,i)∈(ops.toList.take q).zipIdx:=fun c b=>mG (by rw[q8,ah c];exact gl b)
 have dm:∀{i:Nat} {o:Oper},q<=i->ops[i]? = some o->(o,i)∈ops.toList.zipIdx.drop q:=fun {i o} c b=>by
  rw[List.mem_iff_getElem?];exact⟨i-q,by rw[q9,(om:q+(i-q)=i),List.getElem?_zipIdx,gl b];simp⟩
 refine⟨fun i o b=>?_,fun i o b k E=>?_,fun i o j p t c l b m n F=>?_,fun i o j p t c l b m n r=>?_,fun i o c b j l=>?_,by simpa using D⟩
 .simpa using aE.1 y o (fT (gl b))
 .simpa using aE.1 (aE.1 z (o,i) (mG (gl b))) k E
 .have:=aE.1 (aE.1 A (o,i) (tk c b)) (p,j) (tk l m);simp only[n]at this;simp only[eX,lE,ay,dj]at this;rcases this with a|a
  .simp at a;exact absurd F a
  .exact⟨a.1,by simpa using a.2⟩
 .have:=aE.1 (aE.1 B (o,i) (tk c b)) (p,j) (tk l m);simp only[n,r]at this;simpa using this
 .have:=aE.1 (aE.1 C (o,i) (dm c b)) j (by simpa using l)
  simp only[eX]at this;rcases this with (a|a)|a
  .exact bW (bW (by simpa using a))
  .right;rw[ay]at a;obtain⟨s,a⟩:=a;refine⟨by simpa using s,?_⟩
   simp only[NL,ay,dj]at a;obtain⟨u,a⟩:=a
   cases e:ops.toList[j]? with
   | none=>rw[e]at a;cases a
   | some oj =>
    rw[e]at a;simp only[ay]at a;obtain⟨v,a⟩:=a
    cases f:oj.dst with
    | none=>rw[f]at a;cases a
    | some d =>
     rw[f]at a;refine⟨oj,d,u,by simpa using e,f,v,fun i' p w m=>?_⟩
     have x:=aE.1 a (p,i') (dm w m);simp only[ay,eX,lE]at x;refine⟨fun t n=>?_,fun G=>?_⟩
     .have g:=x.1;rw[n]at g;simpa using g
     .rcases x.2 with g|g
      .simp at g;exact absurd G g
      .simpa using g
  .exact bW (bQ a)
structure IZ(ops:Array Oper)(q:Nat)(S:St)(O1:Tm)(al:Nat->Option ft)(N:Nat)(a0:Act)(w0:World)(listed:Array Bool)(a:Act)(w:World):Prop where
 size:listed.size=ops.size
 tailU:∀i,q<=i->i<ops.size->listed.getD i true=false
 defers:a.defers=[]
 tsize:a.tmps.size=N
 gr:dI BK BK w0 w
 tm:∀t,(∀(j:Nat) (o:Oper),j<q->ops[j]? = some o->o.dst=some t->listed.getD j false=true)->bM w S.dom (O1 t) (a.tmps.getD t undef)
 old:∀t,(∀(j:Nat) (o:Oper),j<q->ops[j]? = some o->o.dst≠some t)->a.tmps.getD t undef=a0.tmps.getD t undef
 news:∃B:Nat->Nat,(∀(i:Nat) (o:Oper) (X:ft) (d:Nat),i<q->ops[i]? = some o->al i=some X->o.dst=some d->listed.getD i false=true ->
   a.tmps.getD d undef=.pointer (some ⟨B i,0,ab⟩)/\w0.heap.size<=B i/\∃zc,w.heap[B i]? = some (.cells zc X.ty (0,0))/\ZX X zc) /\
  ∀i j,i<q->j<q->(al i).isSome=true->(al j).isSome=true->listed.getD i false=true->listed.getD j false=true->B i=B j->i=j
def vI(ops:Array Oper)(q:Nat)(listed:Array Bool)(t:Nat):Prop:=∃j o,listed.getD j true=false/\xe ops q j o t
structure IJ(ops:Array Oper)(q:Nat)(jss:List (List Nat))(K:Tm->St->Prop)(D:Nat->Prop)(N:Nat)(w0:World)(listed:Array Bool)(a:Act)(w:World):Prop where
 ex:∃k O S,q<=k/\k<=ops.size/\listed.size=ops.size/\(∀i,q<=i->i<ops.size->(listed.getD i true=true↔i<k)) /\
  (∀j,j<q->listed.getD j true=false->∃o d,xe ops q j o d/\BP o O S (O d))/\tlX ops (Ib jss (k-q)) (ops.toList.drop k) O S K /\
  a.defers=[]/\a.tmps.size=N/\fI w S/\(∀t,¬vI ops q listed t->bM w S.dom (O t) (a.tmps.getD t undef))/\dI D S.dom w0 w
theorem ut{α β:Type}{f:α->β}:∀{l:List α},l.Nodup->(∀x∈l,∀y∈l,f x=f y->x=y)->(l.map f).Nodup
 | [],_,_=>by simp
 | a::l,h,c=>by
  simp only[wY]at h;simp only[cU,wY,im,not_exists,not_and];refine⟨fun x b e=>?_,ut h.2 (fun x b y d=>c x (d9 _ b) y (d9 _ d))⟩;have:=c x (d9 _ b) a (eU ..) e;subst this;exact h.1 b
def Cl(n i:Nat):(Array.replicate n false).getD i false=false:=by
 rw[cQ,Pc];split<;>rfl
def DI(h:j<listed.size):listed.getD j true=listed.getD j false:=by simp[Array.getD,h]
def oQ(h:listed.getD k false=true):listed.getD k true=true:=by
 rw[cQ]at h ⊢
 cases a:listed[k]? with
 | none=>rw[a]at h;cases h
 | some b=>rw[a]at h;exact h
def PO:O.put ab x=O:=by rw[Tm.put_eq]
def uj(h:d≠some t):O.put d x t=O t:=by
 cases d with
 | none=>rw[PO]
 | some d=>simp only[Tm.put_eq];rw[af];intro e;exact h (by rw[e])
def M7:O.put (some t) x t=x:=by simp[Tm.put_eq]
def Aq{d:Nat}(b:xN N ops.toList=true)(c:ops[i]? = some o)(a:o.dst=some d):d<N:=by
 have:=aE.1 b o (fT (by simpa using c:ops.toList[i]? = some o))
 rw[a]at this;simpa using this
def wj(c:∀(i:Nat) (o:Oper),ops[i]? = some o->∀k∈aft o,k<i)(e:listed.size=ops.size)(a:kX .any ops listed=[]):∀j,j<ops.size->listed.getD j false=true:=by
 intro j
 induction j using Nat.strongRecOn with
 | _ j ih =>
  intro b
  cases f:listed.getD j false with
  | true=>rfl
  | false =>
   have:j∈kX .any ops listed:=M3 (cF b) ((DI om).trans f) (fun k d=>ih k (c j _ (cF b) k d) (by have:=c j _ (cF b) k d;omega))
   rw[a]at this;cases this
theorem uV{P:Nat->Prop}:∀(pend:List (Nat×ft)) (O0:Tm) {O1:Tm} (S:St) (K:Tm->St->Prop),oV pend O0 S K->(∀t,¬P t->O1 t=O0 t)->oV pend O1 S (fun O S=>∃O',(∀t,¬P t->O t=O' t)/\K O' S)
 | [],O0,O1,S,K,h,a=>by simp only[oV]at h ⊢;exact⟨O0,a,h⟩
 | (d,X)::r,O0,O1,S,K,h,a=>by
  simp only[oV]at h ⊢;intro b c;refine uV r _ _ K (h b c) (fun t e=>?_);simp only[Tm.put_eq];split
  .rfl
  .exact a t e
def LI{id:Nat}{K:Tm->St->Prop}(h:awX ops O S K)(hr:RT O S N a w)(hd:xN N ops.toList=true)
  (hq:∀O' S' a' w',K O' S'->RT O' S' N a' w'->dI S.dom S'.dom w w'->Q .normal a' w'):(Code.region id ops true).wp ai Q a w:=by
 classical
 obtain⟨q,jss,mv,H0,hok,hH,hX⟩:=h;have D:=Ij hok;have hlen:(ops.toList.take q).length=q:=by rw[gV];have:=D.le;simp;omega
 obtain⟨Os,al,e0,hK,hi⟩:=CI _ _ _ _ _ hH;rw[hlen]at hK
 replace hK:=hX _ _ hK
 have hi':∀(i:Nat) (o:Oper),i<q->ops[i]? = some o->(∃t d X,o.op=.alloc t/\o.dst=some d/\nr t=some X/\al i=some X/\Os (i+1)=(Os i).put (some d) .any) ∨
   (al i=ab/\∃z,BP o (Os i) S z/\Os (i+1)=(Os i).put o.dst z):=fun i o c g=>hi i o (by rw[q8,ah c];simpa using g)
 have stable:∀t k i,i<=k->k<=q->(∀j o,i<=j->j<k->ops[j]? = some o->o.dst≠some t)->Os k t=Os i t:=by
  intro t k
  induction k with
  | zero=>intro i l _ _;rw[(om:i=0)]
  | succ k ih =>
   intro i l n G;by_cases e:i=k+1
   .rw[e]
   .have hk:k<ops.size:=by have:=D.le;omega
    have I:=G k _ om om (cF hk);refine Eq.trans ?_ (ih i om om (fun j o U r g=>G j o U om g));rcases hi' k _ om (cF hk)with⟨_,d,X,_,n,_,_,C⟩|⟨_,z,_,C⟩
    .rw[C];exact uj (by rw[<-n];exact I)
    .rw[C];exact uj I
 have kept:∀(i:Nat) (o:Oper) (d:Nat) (x:AV),i<q->ops[i]? = some o->o.dst=some d->Os (i+1)=(Os i).put (some d) x->Os q d=x:=by
  intro i o d x c g hdd hO;rw[stable d q (i+1) om (ae _) (fun j p U r hp hpd=>by
   have:=D.apart i o j p d c r g hp hdd hpd;omega),hO]
  exact M7
 have seen:∀(i:Nat) (o:Oper) (t:Nat),i<q->ops[i]? = some o->t∈looks o->Os q t=Os i t:=fun i o t c g I =>
  stable t q i om (ae _) (fun j p U r hp hpt=>by
   have:=(D.reads i o j p t c r g hp hpt I).1;omega)
 have w0s:fI w.drew S:=hr.st.drew;have r0:RT O S N a w.drew:=⟨hr.defers,hr.size,fun t=>bM.grow hr.st.noU (dI.drew _ w) _ _ (hr.tm t),w0s⟩;have came:∀(listed:Array Bool) (i j:Nat) (o:Oper),xl ops listed->ops[i]? = some o->(∀k∈aft o,listed.getD k false=true)->(j∈aft o∨uf ops 12 j i=true)->listed.getD j false=true :=
  fun listed i j o V g m h=>h.elim (m j) (ue V 12 j i o g m)
 have HT:∀listed a' w',IZ ops q S (Os q) al N a w.drew listed a' w'->(∀j,j<q->listed.getD j true=false->(j∈DF jss∨mv=true/\NK ops.toList j=true)/\∃o d,xe ops q j o d)->IJ ops q jss K S.dom N w.drew listed a' w':=by
  intro listed a' w' H W;have hlist:∀(j:Nat) (o:Oper),j<q->ops[j]? = some o->listed.getD j true≠false->listed.getD j false=true:=by
   intro j o A g hn;rw[DI (by rw[H.size];exact(er.1 g).1)]at hn
   simpa using hn
  have hpure:∀(i:Nat) (o:Oper) (d:Nat),i<q->xe ops q i o d->al i=ab/\∃z,BP o (Os i) S z/\Os (i+1)=(Os i).put o.dst z:=by
   intro i o d c R;rcases hi' i o c R.op with⟨t,d,Y,l,_⟩|l
   .have:=R.pure;rw[l]at this;simp[Fq]at this
   .exact l
  have halloc:∀(i:Nat) (o:Oper) (X:ft),i<q->ops[i]? = some o->al i=some X->listed.getD i false=true:=by
   intro i o X c g hX;refine hlist i o c g (fun J=>?_);obtain⟨_,o',d,R⟩:=W i c J;rw[(hpure i o' d c R).1]at hX;cases hX
  have hS:fI w' S:=w0s.frozen H.gr;have htm:∀t,¬vI ops q listed t->bM w' S.dom (Os q t) (a'.tmps.getD t undef):=fun t I=>H.tm t (fun j o A g hot=>by
   refine hlist j o A g (fun J=>?_);obtain⟨_,o',d,R⟩:=W j A J;have ho':=R.op;rw[g]at ho';cases ho';have E:=R.dst;rw[hot]at E;cases E;exact I ⟨j,o,J,R⟩)
  suffices hsuf:∃O' S',(∀j,j<q->listed.getD j true=false->∃o d,xe ops q j o d/\BP o O' S' (O' d))/\tlX ops jss (ops.toList.drop q) O' S' K/\fI w' S'/\(∀t,¬vI ops q listed t->bM w' S'.dom (O' t) (a'.tmps.getD t undef))/\dI S.dom S'.dom w.drew w' by
   obtain⟨O',S',g1,g2,g3,g4,g5⟩:=hsuf;refine⟨q,O',S',ae _,D.le,H.size,fun i hi1 hi2=>?_,g1,by rw[cq];exact g2,H.defers,H.tsize,g3,g4,g5⟩
   rw[H.tailU i hi1 hi2];constructor
   .intro h;cases h
   .intro h;omega
  rcases hK with⟨_,hT⟩|⟨hmv,K',hA,hK'⟩
  .refine⟨Os q,S,fun j A F=>?_,hT,hS,htm,H.gr.any _⟩;obtain⟨_,o,d,R⟩:=W j A F;obtain⟨_,z,hz,hO⟩:=hpure j o d A R;refine⟨o,d,R,?_⟩;rw[kept j o d z A R.op R.dst (by rw[hO,R.dst])]
   exact sA (uD fun t I=>(seen j o t A R.op I).symm) hz
  generalize hpe:(([]:List (Nat×ft))++(et q).filterMap (fun i=>(al i).bind fun X=>((ops.toList.take q)[i]?).bind fun o=>o.dst.map fun d=>(d,X)))=pend at hA;have hK2:=uV (O1:=fun t=>if vI ops q listed t then .any else As (qu (ops.toList.take q)) (Os q) t) (P:=vI ops q listed) pend _ S _ hA (fun t I=>by simp only[af I])
  obtain⟨B,hB1,hB2⟩:=H.news
  let idx:=(et q).filter (fun i=>((al i).bind fun X=>((ops.toList.take q)[i]?).bind fun o=>o.dst.map fun d=>(d,X)).isSome)
  let f:Nat->Nat×ft×Nat:=fun i=>match ((al i).bind fun X=>((ops.toList.take q)[i]?).bind fun o=>o.dst.map fun d=>(d,X))with
   | some (d,X)=>(d,X,B i)
   | ab=>(0,⟨0,0,0,fun _=>.any⟩,B i)
  have hidx:∀i∈idx,∃o X d,i<q/\ops[i]? = some o/\al i=some X/\o.dst=some d/\f i=(d,X,B i):=by
   intro i hii;simp only[idx,qb,fS]at hii;obtain⟨l,n⟩:=hii;obtain⟨p,hp⟩:=Option.isSome_iff_exists.1 n;have R:f i=(p.1,p.2,B i):=by simp only[f,hp]
   simp only[Option.bind_eq_some_iff,cW]at hp;obtain⟨X,hX,o,g,d,hd1,hd2⟩:=hp;rw[q8,ah l]at g;refine⟨o,X,d,l,by simpa using g,hX,hd1,?_⟩
   rw[R,<-hd2]
  have hpend:pend=(idx.map f).map fun x=>(x.1,x.2.1):=by
   rw[<-hpe,wZ,List.map_map];simp only[idx];generalize et q=rg
   induction rg with
   | nil=>rfl
   | cons i rg ih =>
    simp only[Bk,List.filter_cons]
    cases hc:((al i).bind fun X=>((ops.toList.take q)[i]?).bind fun o=>o.dst.map fun d=>(d,X))with
    | none=>simp only[Option.isSome_none,bK,aM];exact ih
    | some p=>simp only[Option.isSome_some,aK,cU];rw[<-ih];simp only[Function.comp,f,hc]
  rw[hpend]at hK2
  let M:Nat->Prop:=fun b=>S.dom b∨w.drew.heap.size<=b
  have hnuM:NoU M w.drew:=by
   intro b hb cs ty fr hc;rcases hb with hb|hb
   .exact w0s.noU b hb cs ty fr hc
   .exact absurd (gJ hc) om
  have up:∀x v,bM w.drew S.dom x v->bM w' M x v:=fun x v hx =>
   bM.grow hnuM (H.gr.any M) x v (bM.turn (M:=S.dom) (M':=M) (fun k hk hm=>by
    rcases hm with hm|hm
    .exact hm
    .omega) x v hx)
  have hres:=xV (a:=a') (w:=w') (N:=N) (B0:=w.drew.heap.size) (M:=M) (idx.map f) _ S hK2
   (fun b X hX=>by
    obtain⟨cs,l,n,G,L⟩:=w0s b X hX;exact⟨cs,(H.gr.keep b (gJ l) (fun x=>x)).trans l,n,fun j A=>by obtain⟨u,C,h6⟩:=G j A;exact⟨u,C,up _ _ h6⟩,L⟩)
   (fun t=>by
    by_cases hlt:vI ops q listed t
    .simp only[ah hlt];simp[bM]
    simp only[af hlt,As];by_cases hin:(qu (ops.toList.take q)).contains t=true
    .by_cases hmf:qZ (Os q t)=true
     .simp only[hmf,BT,VO,bK,aM];exact uC hmf (htm t hlt)
     .simp only[hin,hmf,ra,Bool.and_self,aK];simp[bM]
    .simp only[hin,Bool.false_and,bK,aM];have hno:∀(j:Nat) (o:Oper),j<q->ops[j]? = some o->o.dst≠some t:=by
      intro j o A g hdt;apply hin;simp only[qu,List.contains_iff_mem,Vf];exact⟨o,fT (i:=j) (by rw[q8,ah A];simpa using g),hdt⟩
     rw[H.old t hno,stable t q 0 om (ae _) (fun j o _ A g=>hno j o A g),e0];exact up _ _ (r0.tm t))
   (fun x hx=>by
    obtain⟨i,hii,rfl⟩:=im.1 hx;obtain⟨o,X,d,l,n,G,L,C⟩:=hidx i hii;rw[C];obtain⟨g1,g2,g3⟩:=hB1 i o X d l n G L (halloc i _ _ l n G);exact⟨g1,g3⟩)
   (by
    rw[List.map_map];refine ut (List.Pairwise.filter _ List.nodup_range) (fun i hii j hjj e=>?_);obtain⟨o,X,d,l,n,G,L,C⟩:=hidx i hii;obtain⟨o',X',d',h1',h2',h3',h4',h5'⟩:=hidx j hjj;simp only[Function.comp,C,h5']at e;exact hB2 i j l h1' (by rw[G];rfl) (by rw[h3'];rfl) (halloc i _ _ l n G) (halloc j _ _ h1' h2' h3') e)
   (fun x hx=>by
    obtain⟨i,hii,rfl⟩:=im.1 hx;obtain⟨o,X,d,l,n,G,L,C⟩:=hidx i hii;rw[C];obtain⟨g1,g2,g3⟩:=hB1 i o X d l n G L (halloc i _ _ l n G);exact⟨w0s.fresh g2,g2⟩)
  obtain⟨O',S',⟨O2,Z,k1⟩,k2,k3,k4⟩:=hres;obtain⟨k5,k6⟩:=hK' _ _ k1;have hdom:∀k,k<w'.heap.size->S'.dom k->M k:=fun k _ hk=>k4 k hk;refine⟨O2,S',fun j A F=>?_,k6,fun b X hX=>?_,fun t I=>?_,?_⟩
  .obtain⟨hjs|⟨hm,_⟩,o,d,R⟩:=W j A F
   .obtain⟨p',d',l,n,G⟩:=tE k5 j hjs;rw[show ops.toList[j]? = some o by simpa using R.op]at l;cases l
    rw[R.dst]at n;cases n;exact⟨o,d,R,G⟩
   .rw[hmv]at hm;cases hm
  .obtain⟨cs,l,n,G,L⟩:=k2 b X hX;exact⟨cs,l,n,fun j A=>by obtain⟨u,C,h6⟩:=G j A;exact⟨u,C,bM.turn hdom _ _ h6⟩,L⟩
  .rw[<-Z t I];exact bM.turn hdom _ _ (k3 t)
  .refine⟨H.gr.os,H.gr.tape,H.gr.output,H.gr.size,fun k hk _=>H.gr.keep k hk (fun x=>x),H.gr.shape,fun k hk hm=>?_⟩;rcases k4 k hm with h6|h6
   .exact h6
   .exact absurd hk om
 have tailStep:∀listed a' w' i o,IJ ops q jss K S.dom N w.drew listed a' w'->xl ops listed->ops[i]? = some o->listed.getD i true=false->(∀k∈aft o,listed.getD k false=true)->o.wp ai a' w' (fun a'' w''=>IZ ops q S (Os q) al N a w.drew (listed.setIfInBounds i true) a'' w''∨IJ ops q jss K S.dom N w.drew (listed.setIfInBounds i true) a'' w'') Q:=by
  intro listed a' w' i o T V g J m;obtain⟨k,O',S',hk1,hk2,hsz,hl,hfr,hL,hdef,hts,hrs,htm,hG⟩:=T.ex;have hio:i<ops.size:=(er.1 g).1;have hils:i<listed.size:=om
  have s:∀j d,(listed.setIfInBounds i true).getD j d=if j=i then true else listed.getD j d:=fun j d=>mK _ _ _ _ hils
  let Om:Tm:=fun t=>if vI ops q listed t then .any else O' t
  have hRm:RT Om S' N a' w':=⟨hdef,hts,fun t=>by
   simp only[Om];split
   .simp[bM]
   .rename_i hc;exact htm t hc,hrs⟩
  have hlk:∀x,x∈o.op.operands.toList->ev O' x=ev Om x:=uD fun t I=>by
   simp only[Om];rw[af];rintro⟨j,oj,F,hfj⟩;have:listed.getD j false=true:=by
    rcases aF i q with c|c
    .exact m j (D.reads i o j oj t c hfj.lt g hfj.op hfj.dst I).2
    .exact m j ((hfj.tail i o c g).2 I)
   rw[oQ this]at F;cases F
  have late:∀t,¬vI ops q (listed.setIfInBounds i true) t->o.dst≠some t->¬vI ops q listed t:=by
   rintro t I e ⟨j,oj,F,hfj⟩;refine I ⟨j,oj,?_,hfj⟩;rw[s,af]
   .exact F
   .rintro rfl;have hoj:=hfj.op;rw[g]at hoj;cases hoj;exact e hfj.dst
  rcases aF i q with c|c
  ·
   obtain⟨o',d,R,hok'⟩:=hfr i c J;have ho':=R.op;rw[g]at ho';cases ho';have E:=R.dst;refine CV (sA hlk hok') hRm (fun v w'' hv hg=>bQ ⟨k,O',S',hk1,hk2,by simp[hsz],fun j U r=>?_,fun j U r=>?_,hL,by rw[tv];exact hdef,by rw[zS];exact hts,hrs.frozen hg,fun t I=>?_,hG.trans (hg.any _)⟩)
   .rw[s,af om];exact hl j U r
   .rw[s]at r;by_cases e:j=i
    .rw[ah e]at r;cases r
    .rw[af e]at r;exact hfr j U r
   .by_cases e:o.dst=some t
    .have Z:=e;rw[E]at Z;cases Z;rw[e,put_eq (by rw[hts];exact Aq hd g E)];exact hv
    .rw[wo e];exact bM.grow hrs.noU (hg.any _) _ _ (htm t (late t I e))
  .have hik:i=k:=by
    rcases dS i k with l|l|l
    .rw[(hl i c hio).2 l]at J;cases J
    .exact l
    .rcases D.tail i o c g k l with n|⟨_,p,d,n⟩
     .have:=(hl k om om).1 (oQ (came _ i k o V g m n));omega
     .have:=n.lt;omega
   subst hik;have hdrop:ops.toList.drop i=o::ops.toList.drop (i+1):=by
    have l:ops.toList[i]? = some o:=by simpa using g
    rw[sw (by simpa using hio)]
    congr 1;exact(eJ.1 l).2
   rw[hdrop]at hL;have nxt:∀z v w'' S'',(∀j,j∈DF (Ib jss (i-q))->∃p d,ops.toList[j]? = some p/\p.dst=some d/\BP p (O'.put o.dst z) S'' (O'.put o.dst z d))->tlX ops (Ib jss (i-q+1)) (ops.toList.drop (i+1)) (O'.put o.dst z) S'' K->bM w'' S''.dom z v->fI w'' S''->dI S'.dom S''.dom w' w'' ->
     IZ ops q S (Os q) al N a w.drew (listed.setIfInBounds i true) (a'.put o.dst v) w''∨IJ ops q jss K S.dom N w.drew (listed.setIfInBounds i true) (a'.put o.dst v) w'':=by
    intro z v w'' S'' hlate hz hv hs hg;refine bQ ⟨i+1,O'.put o.dst z,S'',om,om,by simp[hsz],fun j U r=>?_,fun j U r=>?_,by rw[(om:i+1-q=(i-q)+1)];exact hz,by rw[tv];exact hdef,by rw[zS];exact hts,hs,fun t I=>?_,hG.trans hg⟩
    .rw[s];by_cases e:j=i
     .rw[ah e];simp;omega
     .rw[af e,hl j U r];omega
    .rw[s,af om]at r;obtain⟨p,d,R,hp⟩:=hfr j U r;refine⟨p,d,R,?_⟩;have L:ops.toList[j]? = some p:=by simpa using R.op
     rcases D.tail i o c g j om with l|⟨l|⟨_,hm⟩,_⟩
     .rw[oQ (came _ i j o V g m l)]at r;cases r
     .obtain⟨p',d',l,n,G⟩:=hlate j l;rw[L]at l;cases l;rw[R.dst]at n;cases n;exact G
     .have hta:=(R.tail i o c g).1;rw[uj (fun e=>(hta d e).2 rfl)];exact sA (uD fun t I=>(uj (fun e=>(hta t e).1 I)).symm) (Uf L hm hp)
    .by_cases e:o.dst=some t
     .rw[e,put_eq (by rw[hts];exact Aq hd g e),M7];exact hv
     .rw[wo e,uj e];exact bM.grow hrs.noU hg _ _ (htm t (late t I e))
   rcases hL with⟨A,hL⟩|hL
   .unfold Gb at hL;rw[D.guard i o g]at hL;exact pT (wT hlk hL) hRm (fun z v w'' S'' hz hv hs hg=>nxt z v w'' S'' (by rw[A];intro j h;cases h) (bW ⟨by simp only[Ib];rw[A];rfl,hz⟩) hv hs hg)
   .unfold Q0 at hL;exact pT (wT hlk hL) hRm (fun z v w'' S'' hz hv hs hg=>nxt z v w'' S'' (tE hz.1) (bQ hz.2) hv hs hg)
 have headStep:∀listed a' w' i o,IZ ops q S (Os q) al N a w.drew listed a' w'->xl ops listed->ops[i]? = some o->listed.getD i true=false->(∀k∈aft o,listed.getD k false=true)->o.wp ai a' w' (fun a'' w''=>IZ ops q S (Os q) al N a w.drew (listed.setIfInBounds i true) a'' w''∨IJ ops q jss K S.dom N w.drew (listed.setIfInBounds i true) a'' w'') Q:=by
  intro listed a' w' i o H V g J m;have hio:i<ops.size:=(er.1 g).1;have hils:i<listed.size:=by rw[H.size];exact hio
  rcases aF i q with c|c
  .have s:∀j d,(listed.setIfInBounds i true).getD j d=if j=i then true else listed.getD j d:=fun j d=>mK _ _ _ _ hils
   have hS:fI w' S:=w0s.frozen H.gr;have mk:∀(v:Value) (w'':World),dI BK BK w' w''->(∀d,o.dst=some d->bM w'' S.dom (Os q d) v) ->
     (∃B:Nat->Nat,(∀(j:Nat) (p:Oper) (X:ft) (d:Nat),j<q->ops[j]? = some p->al j=some X->p.dst=some d->(listed.setIfInBounds i true).getD j false=true ->
       (a'.put o.dst v).tmps.getD d undef=.pointer (some ⟨B j,0,ab⟩)/\w.drew.heap.size<=B j/\∃zc,w''.heap[B j]? = some (.cells zc X.ty (0,0))/\ZX X zc) /\
      ∀j k,j<q->k<q->(al j).isSome=true->(al k).isSome=true->(listed.setIfInBounds i true).getD j false=true->(listed.setIfInBounds i true).getD k false=true->B j=B k->j=k) ->
     IZ ops q S (Os q) al N a w.drew (listed.setIfInBounds i true) (a'.put o.dst v) w'':=by
    intro v w'' hg hz hB;refine⟨by simp[H.size],fun j U r=>?_,by rw[tv];exact H.defers,by rw[zS];exact H.tsize,H.gr.trans hg,fun t I=>?_,fun t I=>?_,hB⟩
    .rw[s,af om];exact H.tailU j U r
    .by_cases e:o.dst=some t
     .rw[e,put_eq (by rw[H.tsize];exact Aq hd g e)]
      exact hz t e
     .rw[wo e];refine bM.grow hS.noU (hg.any _) _ _ (H.tm t (fun j p A hp hpt=>?_));have:=I j p A hp hpt;rw[s]at this;by_cases Z:j=i
      .subst Z;rw[g]at hp;cases hp;exact absurd hpt e
      .rw[af Z]at this;exact this
    .rw[wo (I i o c g)];exact H.old t I
   obtain⟨B,hB1,hB2⟩:=H.news;rcases hi' i o c g with⟨t,d,X,hop,E,hX,hal,hO⟩|⟨hal,z,hz,hO⟩
   .obtain⟨zc,z1,z2,z3⟩:=LM hX;refine iA (v:=.pointer (some ⟨w'.heap.size,0,ab⟩)) (w':=w'.alloc (.cells zc t)) (by simp[execOp,hop,z2 w']) (bW ?_)
    have hg:dI BK BK w' (w'.alloc (.cells zc t)):=⟨rfl,rfl,rfl,sm,fun k hk _=>U0 w' _ k hk,fun k cs ty fr hc=>⟨cs,by rw[U0 w' _ k (gJ hc)];exact hc,rfl⟩,fun _ _ h=>h⟩
    have hBlt:∀(j:Nat),j<q->(al j).isSome=true->listed.getD j false=true->B j<w'.heap.size:=by
     intro j A hs C;have hjs:j<ops.size:=by have:=D.le;omega
     rcases hi' j ops[j] A (cF hjs)with⟨_,e,Y,_,n,_,L,_⟩|⟨L,_⟩
     .obtain⟨_,_,zc',hz',_⟩:=hB1 j _ Y e A (cF hjs) L n C;exact gJ hz'
     .rw[L]at hs;cases hs
    refine mk _ _ hg (fun d' hd'=>?_) ⟨fun j=>if j=i then w'.heap.size else B j,fun j p Y e l n G L C=>?_,fun j k l n G L C h6 h7=>?_⟩
    .rw[E]at hd';cases hd';rw[kept i o d _ c g E hO];simp[bM]
    .by_cases Z:j=i
     .subst Z;rw[g]at n;cases n;rw[E]at L;cases L;rw[hal]at G;cases G;simp only[aK];refine⟨by rw[E,put_eq (by rw[H.tsize];exact Aq hd g E)],H.gr.size,zc,?_,z3⟩
      rw[z1];exact jJ w' _
     .simp only[af Z];rw[s,af Z]at C;obtain⟨g1,g2,zc',g3,g4⟩:=hB1 j p Y e l n G L C;refine⟨?_,g2,zc',?_,g4⟩
      .rw[wo]
       .exact g1
       .intro e3;exact Z (D.apart j p i o e l c n g L e3)
      .rw[U0 w' _ _ (gJ g3)];exact g3
    .rw[s]at C h6;by_cases e1:j=i
     .by_cases Z:k=i
      .rw[e1,Z]
      .simp only[ah e1,af Z]at h7;rw[af Z]at h6;have:=hBlt k n L h6;omega
     .rw[af e1]at C;by_cases Z:k=i
      .simp only[af e1,ah Z]at h7;have:=hBlt j l G C;omega
      .simp only[af e1,af Z]at h7;rw[af Z]at h6;exact hB2 j k l n G L C h6 h7
   .let Oe:Tm:=fun t=>if (∀(j:Nat) (p:Oper),j<q->ops[j]? = some p->p.dst=some t->listed.getD j false=true)then Os q t else .any
    have hRe:RT Oe S N a' w':=⟨H.defers,H.tsize,fun t=>by
     simp only[Oe];split
     .rename_i hc;exact H.tm t hc
     .simp[bM],hS⟩
    have hze:BP o Oe S z:=sA (uD fun t I=>by
     simp only[Oe];rw[ah (fun j p A hp hpt=>m j (D.reads i o j p t c A g hp hpt I).2),seen i o t c g I]) hz
    have hne:∀j,(al j).isSome=true->j≠i:=fun j h Z=>by subst Z;rw[hal]at h;cases h
    refine CV hze hRe (fun v w'' hv hg=>bW (mk v w'' hg (fun d hdd=>?_) ⟨B,fun j p Y e l n G L C=>?_,fun j k l n G L C h6 h7=>?_⟩))
    .rw[kept i o d z c g hdd (by rw[hO,hdd])];exact hv
    .have hji:=hne j (by rw[G];rfl)
     rw[s,af hji]at C;obtain⟨g1,g2,zc',g3,g4⟩:=hB1 j p Y e l n G L C;refine⟨?_,g2,zc',(hg.keep _ (gJ g3) (fun x=>x)).trans g3,g4⟩;rw[wo]
     .exact g1
     .intro e3;exact hji (D.apart j p i o e l c n g L e3)
    .rw[s,af (hne j G)]at C;rw[s,af (hne k L)]at h6;exact hB2 j k l n G L C h6 h7
  .have hi0:i=q:=by
    rcases aF q i with h|h
    .exfalso;rcases D.tail i o c g q h with l|⟨_,p,d,l⟩
     .have n:=oQ (came _ i q o V g m l);rw[H.tailU q (ae _) om]at n;cases n
     .have:=l.lt;omega
    .omega
   refine tailStep listed a' w' i o (HT listed a' w' H (fun j A F=>?_)) V g J m;rcases D.tail i o c g j om with l|l
   .rw[oQ (came _ i j o V g m l)]at F;cases F
   .rw[hi0,cq]at l;exact l
 refine wp_region_any kr (qe (fun listed a' w'=>xl ops listed/\(IZ ops q S (Os q) al N a w.drew listed a' w'∨IJ ops q jss K S.dom N w.drew listed a' w')) ?_ ?_ ops.size _ a w.drew ?_ ⟨fun i o g h=>?_,bW ?_⟩)
 .rintro listed a' w' i ⟨V,hI⟩ hi;obtain⟨o,g,J,m⟩:=mH hi;have hcl':xl ops (listed.setIfInBounds i true):=by
   have hils:i<listed.size:=by
    rcases aF i listed.size with h|h
    .exact h
    .rw[cQ,eN h]at J;cases J
   intro j p hp A k hk;rw[mK _ _ _ _ hils]at A ⊢;split
   .rfl
   .split at A
    .rename_i e;subst e;rw[g]at hp;cases hp;exact m k hk
    .exact V j p hp A k hk
  unfold wpOp;simp only[g];rw[ah (by simp[pu,D.guard i o g])]
  simp only[hcl',kv];rcases hI with H|T
  .exact bW (headStep listed a' w' i o H V g J m)
  .exact bW (tailStep listed a' w' i o T V g J m)
 .rintro listed a' w' ⟨_,hI⟩ hre;have T:IJ ops q jss K S.dom N w.drew listed a' w':=by
   rcases hI with H|T
   .refine HT listed a' w' H (fun j A F=>?_);rw[oQ (wj D.back H.size hre j (by have:=D.le;omega))]at F;cases F
   .exact T
  obtain⟨k,O',S',hk1,hk2,hsz,hl,hfr,hL,hdef,hts,hrs,htm,hG⟩:=T.ex;have W:=wj D.back hsz hre;have hk:k=ops.size:=by
   rcases aF k ops.size with l|l
   .have:=(hl k hk1 l).1 (oQ (W k l));omega
   .omega
  rw[hk,kT sm]at hL
  refine hq O' S' a' w' (hL.elim (fun h=>h.2) (fun h=>by unfold Q0 at h;exact h)) ⟨hdef,hts,fun t=>htm t ?_,hrs⟩ ((dI.drew S.dom w).trans hG)
  rintro⟨j,y,F,hfj⟩;rw[oQ (W j (by have:=hfj.lt;have:=D.le;omega))]at F;cases F
 .simp only[Uo];exact a9 Ue sm
 .rw[Cl]at h;cases h
 .refine⟨sm,fun i _ hi2=>?_,hr.defers,hr.size,dI.refl _ _,fun t I=>?_,fun _ _=>rfl,fun _=>0,fun i o X d l n G L C=>?_,fun i j l n G L C h6 h7=>?_⟩
  .rw[DI (by simpa using hi2)];exact Cl _ _
  .rw[stable t q 0 om (ae _) (fun j o _ A g hdt=>by
    have:=I j o A g hdt;rw[Cl]at this;cases this),e0]
   exact r0.tm t
  .rw[Cl]at C;cases C
  .rw[Cl]at C;cases C

end Go.Proofs.YtdobfmlmenaajaaGreatDoor
