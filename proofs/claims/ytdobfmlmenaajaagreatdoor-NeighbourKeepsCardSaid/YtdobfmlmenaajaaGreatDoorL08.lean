/-
  Lemmas for NeighbourKeeps.
-/
import Derived.Test.YtdobfmlmenaajaaGreatDoorL06
namespace Go.Proofs.YtdobfmlmenaajaaGreatDoor
open Go.RowKit Tryz
open _root_.Array renaming getElem?_setIfInBounds_ne→ct,getElem?_setIfInBounds_self_of_lt→kD,ext_getElem?→qB
open _root_.Classical renaming choose_spec→ef,choose→gR
open _root_.List renaming replicate→bV,size_toArray→cb,length_cons→cw,getD→cK,mem_of_getElem?→cR,getElem?_cons_succ→cS,flatMap_cons→eu,mem_cons_of_mem→eA,getElem?_toArray→fG,mem_cons_self→fP,getElem?_append_right→gE,getElem?_append_left→gN,length_nil→iu,eq_of_mem_replicate→jo,replicate_succ→lF,length_replicate→vH
open _root_.Nat renaming le_refl→af,mul_comm→av,mul_le_mul_left→aQ,le_trans→bI,mul_add→bU,succ_mul→ck,add_zero→cn,lt_of_lt_of_le→cH,mul_zero→dB,mul_succ→eD
open _root_.Ne renaming symm→ai
open _root_.Option renaming none→ae,bind_some→dM,map_eq_some_iff→eC,some→eL
open _root_.Or renaming inl→bn
open Tryz renaming prog→ah
set_option maxHeartbeats 6400000
set_option maxRecDepth 4096
set_option linter.all false
variable{a:Act}{ad:Addr}{cs cs':Array Value}{op:BinOp}{N b es f j k len m off:Nat}{M M' M'':Nat->Prop}{fr:Nat×Nat}{o:Obj}{d:TypeDesc}{e t ty:TypeId}{i:TypeInfo}{u v z:Value}{w w':World}
inductive AV where
 | int (k:IntKind) (n:Int)
 | bool (b:Bool)
 | big (z:Int)
 | nil
 | sl (es b off len:Nat)
 | ptr (es b i:Nat)
 | lst (es n:Nat) (g:Nat->AV)
 | pat (es:Nat) (x:AV)
 | tup (l:List AV)
 | agg (l:List AV)
 | fn (f:Nat) (l:List AV)
 | mag (n:Nat)
 | fp (b i f:Nat)
 | bset (p:Bool->Prop)
 | any
 | nfn
 | mfn (f:Nat) (l:List AV)
variable{x y:AV}{K:AV->Prop}{args:List AV}{g h:Nat->AV}
structure dH where
 ty:TypeId
 es:Nat
 n:Nat
 g:Nat->AV
variable{X:dH}
abbrev St:=Nat->Option dH
variable{post post':AV->St->Prop}{S S':St}
def St.dom(S:St)(b:Nat):Prop:=S b≠none
def St.none:St:=fun _=>ae
def St.upd(S:St)(b:Nat)(x:dH):St:=fun k=>if k=b then some x else S k
def one:Value->Prop
 | .agg _=>False
 | .tuple _=>False
 | _=>True
def li:Value->Prop
 | .int .u32 _=>False
 | _=>True
def reads(cs:Array Value)(off:Nat):Nat->Value->Prop
 | 1,u=>cs[off]? = some u/\one u
 | 2,u=>∃x y,u=.agg #[x,y]/\one x/\one y/\cs[off]? = some x/\cs[off+1]? = some y
 | _,_=>False
def tO(w:World)(b off es:Nat)(u:Value):Prop:=∃cs ty fr,w.heap[b]? = some (.cells cs ty fr)/\reads cs off es u
mutual
def bB(w:World)(M:Nat->Prop):AV->Value->Prop
 | .int k n,v=>v=.int k n
 | .bool b,v=>v=.bool b
 | .big z,v=>ed w w.heap.size v z
 | .nil,v=>v=.slice none 0 0
 | .sl es b off len,v=>∃cap cs ty fr,v=.slice (some ⟨b,es*off,none⟩) len cap/\len<=cap/\w.heap[b]? = some (.cells cs ty fr)/\es*(off+cap)<=cs.size
 | .ptr es b i,v=>v=.pointer (some ⟨b,es*i,none⟩)
 | .lst es n g,v=>∃A c,v=.slice A n c/\n<=c/\(0<n->∃b off,A=some ⟨b,off,none⟩/\b<w.heap.size/\¬M b/\∀j,j<n->∃u,tO w b (off+es*j) es u/\bB w M (g j) u)
 | .pat es x,v=>∃b off u,v=.pointer (some ⟨b,off,none⟩)/\b<w.heap.size/\¬M b/\tO w b off es u/\bB w M x u
 | .tup l,v=>∃vs:List Value,v=.tuple vs.toArray/\a6 w M l vs
 | .agg l,v=>∃vs:List Value,v=.agg (vs.flatMap (fun u=>u.cells.toList)).toArray/\a6 w M l vs
 | .fn f l,v=>∃vs:List Value,v=.func (.func f) #[] vs.toArray/\a6 w M l vs
 | .mag n,v=>ed w w.heap.size (.agg #[.bool false,v]) (n:Int)
 | .fp b i f,v=>v=.pointer (some ⟨b,2*i+f,none⟩)
 | .bset p,v=>∃s,v=.bool s/\p s
 | .any,_=>True
 | .nfn,v=>v=.nilFunc
 | .mfn f l,v=>∃vs:List Value,v=.func (.func f) vs.toArray #[]/\a6 w M l vs
def a6(w:World)(M:Nat->Prop):List AV->List Value->Prop
 | [],[]=>True
 | a::l,v::vs=>bB w M a v/\a6 w M l vs
 | [],_::_=>False
 | _::_,[]=>False
end
def dX(w:World)(S:St):Prop:=∀b x,S b=some x->∃cs,w.heap[b]? = some (.cells cs x.ty (0,0))/\x.es*x.n<=cs.size /\
 (∀j,j<x.n->∃u,reads cs (x.es*j) x.es u/\bB w S.dom (x.g j) u)/\∀(k:Nat) (y:Value),cs[k]? = some y->li y
def NF(M:Nat->Prop)(w:World):Prop:=∀b,M b->∀cs ty fr,w.heap[b]? = some (.cells cs ty fr)->∀(k:Nat) (y:Value),cs[k]? = some y->li y
theorem dX.noU(h:dX w S):NF S.dom w:=by
 intro b a cs ty fr c k y d;unfold St.dom at a
 cases e:S b with
 | none=>exact absurd e a
 | some x =>
  obtain⟨cs',f,_,_,g⟩:=h b x e;rw[f]at c
  cases c
  exact g k y d
structure cG(M M':Nat->Prop)(w w':World):Prop where
 os:w'.os=w.os
 tape:w'.tape=w.tape
 output:w'.output=w.output
 size:w.heap.size<=w'.heap.size
 keep:∀k,k<w.heap.size->¬M k->w'.heap[k]? = w.heap[k]?
 shape:∀(k:Nat) (cs:Array Value) (ty:TypeId) (fr:Nat×Nat),w.heap[k]? = some (Obj.cells cs ty fr)->∃cs':Array Value,w'.heap[k]? = some (Obj.cells cs' ty fr)/\cs'.size=cs.size
 own:∀k,k<w.heap.size->M' k->M k
theorem cG.refl(M:Nat->Prop)(w:World):cG M M w w:=⟨rfl,rfl,rfl,af _,fun _ _ _=>rfl,fun _ cs _ _ h=>⟨cs,h,rfl⟩,fun _ _ h=>h⟩
theorem cG.trans{a b c:World}(h:cG M M' a b)(k:cG M' M'' b c):cG M M'' a c :=
 ⟨k.os.trans h.os,k.tape.trans h.tape,k.output.trans h.output,bI h.size k.size,
   fun i d e=>(k.keep i (cH d h.size) (fun f=>e (h.own i d f))).trans (h.keep i d e),
   fun i cs ty fr l=>by
    obtain⟨g,m,n⟩:=h.shape i cs ty fr l;obtain⟨j,o,p⟩:=k.shape i g ty fr m;exact⟨j,o,p.trans n⟩,
   fun i d e=>h.own i d (k.own i (cH d h.size) e)⟩
theorem cG.weaken{a b:World}(h:cG M M' a b)(c:∀k,M'' k->M' k):cG M M'' a b :=
 ⟨h.os,h.tape,h.output,h.size,h.keep,h.shape,fun k d e=>h.own k d (c k e)⟩
theorem dW(h:w.heap[b]? = some o):b<w.heap.size:=by
 rcases Nat.lt_or_ge b w.heap.size with a|c
 ·exact a
 ·rw[Array.getElem?_eq_none c]at h;cases h
theorem xP(h:w.cell? ad=some v):∃cs ty fr,w.heap[ad.block]? = some (.cells cs ty fr)/\∃k:Nat,cs[k]? = some v:=by
 unfold World.cell? at h;split at h
 ·rename_i cs ty fr a;split at h
  ·cases h
  ·exact⟨cs,ty,fr,a,_,h⟩
 ·cases h
theorem ed.grow(l:NF M w)(f:cG M M' w w'){v:Value}{z:Int}(h:ed w w.heap.size v z):ed w' w'.heap.size v z:=by
 obtain⟨neg,A,n,c,xs,m,o,b,p,q⟩:=h;refine⟨neg,A,n,c,xs,m,o,⟨b.1,b.2.1,fun r=>?_⟩,p,q⟩;obtain⟨ad,e,g,s⟩:=b.2.2 r;refine⟨ad,e,cH g f.size,fun j t=>?_⟩;have a:=s j t;have d:¬M ad.block:=by
  intro d;obtain⟨cs,ty,fr,i,k,u⟩:=xP a;rw[mG]at i;exact l _ d cs ty fr i k _ u
 rw[<-a];exact World.cell?_of_block (w:=w) (by rw[mG];exact f.keep _ g d)
theorem tO.grow(a:cG M M' w w'){b off es:Nat}{u:Value}(c:b<w.heap.size)(d:¬M b)(h:tO w b off es u):tO w' b off es u:=by
 obtain⟨cs,ty,fr,e,f⟩:=h;exact⟨cs,ty,fr,(a.keep b c d).trans e,f⟩
mutual
theorem bB.grow{M M':Nat->Prop}{w w':World}(q:NF M w)(d:cG M M' w w'):∀(a:AV) (v:Value),bB w M a v->bB w' M' a v
 | .int k n,v,h=>by simpa [bB]using h
 | .bool b,v,h=>by simpa [bB]using h
 | .big z,v,h=>by simp only[bB]at h ⊢;exact h.grow q d
 | .nil,v,h=>by simpa [bB]using h
 | .sl es b off len,v,h=>by
  simp only[bB]at h ⊢;obtain⟨cap,cs,ty,fr,m,o,y,E⟩:=h;obtain⟨cs',F,G⟩:=d.shape b cs ty fr y;exact⟨cap,cs',ty,fr,m,o,F,by rw[G];exact E⟩
 | .ptr es b i,v,h=>by simpa [bB]using h
 | .lst es n g,v,h=>by
  simp only[bB]at h ⊢;obtain⟨A,c,m,o,y⟩:=h;refine⟨A,c,m,o,fun H=>?_⟩;obtain⟨b,off,e,r,t,I⟩:=y H;refine⟨b,off,e,cH r d.size,fun s=>t (d.own b r s),fun j B=>?_⟩;obtain⟨u,C,D⟩:=I j B;exact⟨u,C.grow d r t,bB.grow q d (g j) u D⟩
 | .pat es x,v,h=>by
  simp only[bB]at h ⊢;obtain⟨b,off,u,m,r,t,C,J⟩:=h;exact⟨b,off,u,m,cH r d.size,fun s=>t (d.own b r s),C.grow d r t,bB.grow q d x u J⟩
 | .tup l,v,h=>by
  simp only[bB]at h ⊢;obtain⟨vs,m,o⟩:=h;exact⟨vs,m,a6.grow q d l vs o⟩
 | .agg l,v,h=>by
  simp only[bB]at h ⊢;obtain⟨vs,m,o⟩:=h;exact⟨vs,m,a6.grow q d l vs o⟩
 | .fn f l,v,h=>by
  simp only[bB]at h ⊢;obtain⟨vs,m,o⟩:=h;exact⟨vs,m,a6.grow q d l vs o⟩
 | .mag n,v,h=>by simp only[bB]at h ⊢;exact h.grow q d
 | .fp b i f,v,h=>by simpa [bB]using h
 | .bset p,v,h=>by simpa [bB]using h
 | .any,v,h=>by simp[bB]
 | .nfn,v,h=>by simpa [bB]using h
 | .mfn f l,v,h=>by
  simp only[bB]at h ⊢;obtain⟨vs,m,o⟩:=h;exact⟨vs,m,a6.grow q d l vs o⟩
theorem a6.grow{M M':Nat->Prop}{w w':World}(b:NF M w)(c:cG M M' w w'):∀(l:List AV) (vs:List Value),a6 w M l vs->a6 w' M' l vs
 | [],[],_=>by simp[a6]
 | a::l,v::vs,h=>by
  simp only[a6]at h ⊢;exact⟨bB.grow b c a v h.1,a6.grow b c l vs h.2⟩
 | [],_::_,h=>by simp[a6]at h
 | _::_,[],h=>by simp[a6]at h
end
def cL(f:Nat)(args:List AV)(S:St)(post:AV->St->Prop):Prop :=
 ∀(w:World) (vs:List Value),dX w S->a6 w S.dom args vs->Calls ah f vs.toArray w (fun e w' =>
  ∃v r S',e=.returned v/\post r S'/\bB w' S'.dom r v/\dX w' S'/\cG S.dom S'.dom w w')
theorem cL.mono(h:cL f args S post)(a:∀r S',post r S'->post' r S'):cL f args S post' :=
 fun w vs b c=>(h w vs b c).mono fun _ _ ⟨v,r,S',d,e,g⟩=>⟨v,r,S',d,a r S' e,g⟩

abbrev Tm:=Nat->AV
variable{O:Tm}
theorem Tm.put_ex:∃p:Tm->Option Nat->AV->Tm,∀O d x,p O d x=(match d with
 | some d=>fun t=>if t=d then x else O t
 | ae=>O):=⟨_,fun _ _ _=>rfl⟩
noncomputable def Tm.put:Tm->Option Nat->AV->Tm:=gR Tm.put_ex
theorem Tm.put_eq(O:Tm)(d:Option Nat)(x:AV):O.put d x=(match d with
 | some d=>fun t=>if t=d then x else O t
 | ae=>O):=ef Tm.put_ex O d x
def ofV:Value->AV
 | .int k n=>.int k n
 | .bool b=>.bool b
 | .slice ae 0 0=>.nil
 | _=>.any
def ev(O:Tm):Operand->AV
 | .tmp t=>O t
 | .const v=>ofV v
 | .global g=>.ptr 1 g 0
 | .func f=>.fn f []
theorem Fi(w:World)(M:Nat->Prop)(v:Value):bB w M (ofV v) v:=by
 unfold ofV;split<;>simp[bB]
structure RT(O:Tm)(S:St)(N:Nat)(a:Act)(w:World):Prop where
 defers:a.defers=[]
 size:a.tmps.size=N
 tm:∀t,bB w S.dom (O t) (a.tmps.getD t undef)
 st:dX w S
theorem RT.ev(h:RT O S N a w)(x:Operand):bB w S.dom (ev O x) (a.eval x):=by
 cases x with
 | tmp t=>exact h.tm t
 | const v=>exact Fi _ _ v
 | global g=>simp only[Go.Proofs.YtdobfmlmenaajaaGreatDoor.ev,bB,dB];rfl
 | func f=>simp only[Go.Proofs.YtdobfmlmenaajaaGreatDoor.ev,bB];exact⟨[],rfl,by simp[a6]⟩
theorem RT.put(h:RT O S N a w)(g:cG S.dom S'.dom w w')(f:dX w' S'){d:Option Nat}(i:∀k,d=some k->k<N){x:AV}{v:Value}(j:bB w' S'.dom x v) :
  RT (O.put d x) S' N (a.put d v) w':=by
 have b:∀t,bB w' S'.dom (O t) (a.tmps.getD t undef):=fun t=>bB.grow h.st.noU g _ _ (h.tm t)
 cases d with
 | none=>rw[Tm.put_eq];exact⟨h.defers,h.size,b,f⟩
 | some d =>
  refine⟨h.defers,by simp[Act.put,h.size],fun t=>?_,f⟩
  have c:=i d rfl;simp only[Tm.put_eq,Act.put];by_cases e:t=d
  ·subst e;have:(a.tmps.setIfInBounds t v).getD t undef=v:=by
    simp[Array.getD,h.size,c]
   rw[if_pos rfl,this];exact j
  ·have:(a.tmps.setIfInBounds d v).getD t undef=a.tmps.getD t undef:=by
    simp only[Array.getD_eq_getD_getElem?];rw[ct (ai e)]
   rw[if_neg e,this];exact b t
def Ex(op:BinOp)(t:TypeId)(x y:AV)(K:AV->Prop):Prop:=match x,y with
 | .int k a,.int k' b=>k=k'/\(match op with
  | .add=>K (.int k (k.wrap (a+b)))
  | .sub=>K (.int k (k.wrap (a-b)))
  | .mul=>K (.int k (k.wrap (a*b)))
  | .quo=>b≠0/\K (.int k (k.wrap (a.tdiv b)))
  | .rem=>b≠0/\K (.int k (a.tmod b))
  | .eql=>K (.bool (a==b))
  | .neq=>K (.bool (a != b))
  | .lss=>K (.bool (decide (a<b)))
  | .leq=>K (.bool (decide (a<=b)))
  | .gtr=>K (.bool (decide (b<a)))
  | .geq=>K (.bool (decide (b<=a)))
  | _=>False)
 | .bool a,.bool b=>t=4/\(match op with
  | .eql=>K (.bool (a==b))
  | .neq=>K (.bool (a != b))
  | _=>False)
 | .bset p,.bset q=>t=4/\op=.neq/\K (.bset (fun s=>∃a b,p a/\q b/\s=(a != b)))
 | .sl _ _ _ _,.nil=>(t=29/\op=.eql)/\K (.bool false)
 | .lst _ n _,.nil=>(t=29/\op=.eql/\0<n)/\K (.bool false)
 | .nil,.nil=>(t=29/\op=.eql)/\K (.bool true)
 | _,_=>False
theorem yd(h:Ex op ty x y K){w:World}{M:Nat->Prop}{vx vy:Value}(d:bB w M x vx)(e:bB w M y vy)(ox oy:Operand) :
  ∃z v,K z/\bB w M z v/\(do eqGuard op ty ox oy vx vy;binOp op ty vx vy:Sem Value).run ah w=.ok v w:=by
 have f:∀(w:World) (a:Option Addr) (n c n' c':Nat),(binOp .eql 29 (.slice a n c) (.slice none n' c')).run ah w=.ok (.bool a.isNone) w:=fun w a n c n' c'=>Lib.run_eql_slice_nil w _ _ a n c n' c' underlying29;unfold Ex at h;split at h
 ·rename_i k a k' b;obtain⟨rfl,h⟩:=h;simp only[bB]at d e;subst d e;split at h
  ·exact⟨_,.int k (k.wrap (a+b)),h,by simp[bB],by simp[eqGuard,binOp,Op.intArith]⟩
  ·exact⟨_,.int k (k.wrap (a-b)),h,by simp[bB],by simp[eqGuard,binOp,Op.intArith]⟩
  ·exact⟨_,.int k (k.wrap (a*b)),h,by simp[bB],by simp[eqGuard,binOp,Op.intArith]⟩
  ·exact⟨_,.int k (k.wrap (a.tdiv b)),h.2,by simp[bB],by simp[eqGuard,binOp,Op.intDiv,h.1]⟩
  ·exact⟨_,.int k (a.tmod b),h.2,by simp[bB],by simp[eqGuard,binOp,Op.intDiv,h.1]⟩
  ·exact⟨_,.bool (a==b),h,by simp[bB],by simp[eqGuard,binOp,Op.intCmp]⟩
  ·exact⟨_,.bool (a != b),h,by simp[bB],by simp[eqGuard,binOp,Op.intCmp]⟩
  ·exact⟨_,.bool (decide (a<b)),h,by simp[bB],by simp[eqGuard,binOp,Op.intCmp]⟩
  ·exact⟨_,.bool (decide (a<=b)),h,by simp[bB],by simp[eqGuard,binOp,Op.intCmp]⟩
  ·exact⟨_,.bool (decide (b<a)),h,by simp[bB],by simp[eqGuard,binOp,Op.intCmp]⟩
  ·exact⟨_,.bool (decide (b<=a)),h,by simp[bB],by simp[eqGuard,binOp,Op.intCmp]⟩
  ·exact h.elim
 ·rename_i a b;obtain⟨rfl,h⟩:=h;simp only[bB]at d e;subst d e;have i:(underlying 4).run ah w=.ok .bool w:=by
   simp[underlying,underlying4]
  have g:(Op.equal 4 (.bool a) (.bool b)).run ah w=.ok (a==b) w:=by
   unfold Op.equal Op.maxDepth;rw[Op.equalIn];simp[i]
  split at h
  ·exact⟨_,.bool (a==b),h,by simp[bB],by simp[eqGuard,binOp,g]⟩
  ·exact⟨_,.bool (a != b),h,by simp[bB],by simp[eqGuard,binOp,g];cases a<;>cases b<;>rfl⟩
  ·exact h.elim
 ·rename_i p q;obtain⟨rfl,rfl,h⟩:=h;simp only[bB]at d e;obtain⟨a,rfl,l⟩:=d;obtain⟨b,rfl,j⟩:=e;have i:(underlying 4).run ah w=.ok .bool w:=by
   simp[underlying,underlying4]
  have g:(Op.equal 4 (.bool a) (.bool b)).run ah w=.ok (a==b) w:=by
   unfold Op.equal Op.maxDepth;rw[Op.equalIn];simp[i]
  exact⟨_,.bool (a != b),h,by simp only[bB];exact⟨_,rfl,a,b,l,j,rfl⟩,by simp[eqGuard,binOp,g];cases a<;>cases b<;>rfl⟩
 ·obtain⟨⟨rfl,rfl⟩,h⟩:=h;simp only[bB]at d e;obtain⟨cap,cs,ty,fr,rfl,_⟩:=d;subst e;exact⟨_,.bool false,h,by simp[bB],by simp[eqGuard,f]⟩
 ·obtain⟨⟨rfl,rfl,m⟩,h⟩:=h;simp only[bB]at d e;obtain⟨A,c,rfl,_,j⟩:=d;obtain⟨b,off,rfl,_⟩:=j m;subst e;exact⟨_,.bool false,h,by simp[bB],by simp[eqGuard,f]⟩
 ·obtain⟨⟨rfl,rfl⟩,h⟩:=h;simp only[bB]at d e;subst d e;exact⟨_,.bool true,h,by simp[bB],by simp[eqGuard,f]⟩
 ·exact h.elim

def eU:TypeId->Option (Nat×Nat)
 | 2=>some (1,1)|3=>some (1,1)|4=>some (1,1)|5=>some (1,1)|22=>some (1,1)|25=>some (1,1)|28=>some (1,1)|29=>some (1,1)
 | 34=>some (1,1)|41=>some (1,1)|48=>some (1,1)|52=>some (1,1)|59=>some (1,1)|97=>some (1,1)|146=>some (1,1)|158=>some (1,1)|192=>some (1,1)|216=>some (1,1)
 | 50=>some (2,1)|167=>some (2,2)|195=>some (2,2)|197=>some (2,7)
 | 24=>some (1,4)|27=>some (1,6)|107=>some (1,2)|160=>some (1,4)|183=>some (1,2)|202=>some (1,2)|238=>some (1,3)|239=>some (1,8)|218=>some (1,2)
 | _=>ae
def Gz:TypeDesc->Bool
 | .struct _=>true
 | .array _ _=>true
 | _=>false
def G7(P:Program)(t es k:Nat):Bool:=match P.info? t,P.underlying t with
 | some i,some d=>i.size==es*k&&(if Gz d then es*k != 1 else es==1&&k==1)
 | _,_=>false
theorem qF{t:Nat}(h:eU t=some (es,k)):G7 ah t es k=true/\(es=1∨es=2)/\0<k:=by
 unfold eU at h;split at h<;>first
  | (cases h;refine⟨by kernel_rfl,om,om⟩)
  | cases h
theorem wy{t:Nat}(h:G7 ah t es k=true):∃i d,ah.info? t=some i/\i.size=es*k/\ah.underlying t=some d/\((Gz d=true/\es*k≠1)∨(Gz d=false/\es=1/\k=1)):=by
 unfold G7 at h;split at h
 ·rename_i i d c e;simp only[Bool.and_eq_true,beq_iff_eq]at h;refine⟨i,d,c,h.1,e,?_⟩;have a:=h.2;split at a
  ·rename_i b;exact bn ⟨b,by simpa using a⟩
  ·rename_i b;simp at a;exact Or.inr ⟨by simpa using b,a.1,a.2⟩
 ·cases h
def dD(g:Nat->AV)(i:Nat):Nat->List AV
 | 0=>[]
 | k+1=>g i::dD g (i+1) k
theorem qJ(h:one u):u.cells=#[u]:=by cases u<;>first|rfl|exact h.elim
theorem nh(h:w.heap[b]? = some (.cells cs ty fr)):w.cell? ⟨b,off,ae⟩=cs[off]?:=by
 simp[World.cell?,h]
theorem ia(b off k:Nat):(⟨b,off,ae⟩:Addr).add k=⟨b,off+k,ae⟩:=by
 unfold Addr.add;split<;>simp_all
theorem rd{w:World}{b:Nat}{cs:Array Value}{ty:TypeId}{fr:Nat×Nat}(h:w.heap[b]? = some (.cells cs ty fr))(off:Nat)(P:Program) :
  ∀(l:List Value) (i:Nat) (acc:Array Value),(∀j,j<l.length->cs[off+i+j]? = l[j]?)->(loadCellsFrom ⟨b,off,ae⟩ i l.length acc).run P w=.ok (acc++l.toArray) w
 | [],i,acc,_=>by simp[loadCellsFrom]
 | v::l,i,acc,a=>by
  have c:=a 0 sm
  simp only[cn,List.getElem?_cons_zero]at c;have ih:=rd h off P l (i+1) (acc.push v) (fun j d=>by
   have:=a (j+1) (by simp;omega)
   rw[cS]at this;rw[<-this];congr 1;omega)
  simp only[cw,loadCellsFrom];simp only[load,ia];simp[Sem.run,bind,Sem.bind,nh h,c];simpa using ih
theorem zB(a:ah.underlying t=some d)(w:World):(isAgg t).run ah w=.ok (Gz d) w:=by
 simp only[isAgg,Sem.run_bind,run_underlying a,Result.andThen_ok]
 cases d<;>rfl
theorem cJ(a:ah.info? t=some i)(w:World):(sizeOf t).run ah w=.ok i.size w:=by
 simp[sizeOf,typeInfo,a]
theorem uI{t:Nat}(h:w.heap[b]? = some (.cells cs ty fr))(e:eU t=some (es,k))(f:es*k≠1)
  (l:List Value) (g:l.length=es*k) (m:∀j,j<l.length->cs[off+j]? = l[j]?) :
  (Instr.loadAt t (.pointer (some ⟨b,off,ae⟩))).run ah w=.ok (.agg l.toArray) w:=by
 obtain⟨c,u,_⟩:=qF e;obtain⟨i,d,n,o,p,a⟩:=wy c;have q:Gz d=true:=a.elim (fun a=>a.1) (fun a=>by rw[a.2.1,a.2.2]at f;omega)
 have r:=rd h off ah l 0 #[] (fun j s=>by rw[cn];exact m j s)
 simp only[Instr.loadAt,Instr.sureAddr,pure_bind,loadVar,Sem.run_bind,zB p,q,Result.andThen_ok,if_true,cJ n,loadCells];rw[o,<-g,r];simp
theorem qG{t:Nat}(h:w.heap[b]? = some (.cells cs ty fr))(e:eU t=some (es,1))(c:reads cs off es u) :
  (Instr.loadAt t (.pointer (some ⟨b,off,ae⟩))).run ah w=.ok u w:=by
 obtain⟨f,g,_⟩:=qF e;rcases g with rfl|rfl
 ·obtain⟨i,d,r,s,k,a⟩:=wy f;have l:Gz d=false:=a.elim (fun a=>absurd rfl a.2) (fun a=>a.1);simp only[reads]at c;simp only[Instr.loadAt,Instr.sureAddr,pure_bind,loadVar,Sem.run_bind,zB k,l,Result.andThen_ok];simp[nh h,c.1]
 ·simp only[reads]at c;obtain⟨x,y,rfl,m,n,o,p⟩:=c;exact uI h e om [x,y] rfl (fun j q=>by
   match j with
   | 0=>simpa using o
   | 1=>simpa using p
   | j+2=>simp at q;omega)
theorem mN{w:World}{M:Nat->Prop}{cs:Array Value}{es n:Nat}{g:Nat->AV}(b:∀j,j<n->∃u,reads cs (es*j) es u/\bB w M (g j) u) :
  ∀(k i:Nat),i+k<=n->∃vs:List Value,a6 w M (dD g i k) vs/\(vs.flatMap (fun u=>u.cells.toList)).length=es*k/\∀j,j<es*k->cs[es*i+j]? = (vs.flatMap (fun u=>u.cells.toList))[j]?
 | 0,i,_=>⟨[],by simp[dD,a6],sm,fun j b=>by simp at b⟩
 | k+1,i,o=>by
  obtain⟨u,c,f⟩:=b i om;obtain⟨vs,e,h,l⟩:=mN b k (i+1) om;have a:u.cells.toList.length=es/\∀j,j<es->cs[es*i+j]? = u.cells.toList[j]?:=by
   match es,c with
   | 1,c =>
    simp only[reads]at c;rw[qJ c.2];exact⟨rfl,fun j b=>by
     obtain rfl:j=0:=om
     simpa using c.1⟩
   | 2,c =>
    simp only[reads]at c;obtain⟨x,y,rfl,_,_,m,e⟩:=c;refine⟨rfl,fun j b=>?_⟩
    match j with
    | 0=>simpa [Value.cells]using m
    | 1=>simpa [Value.cells]using e
    | j+2=>omega
  refine⟨u::vs,by simp only[dD,a6];exact⟨f,e⟩,by simp only[eu,List.length_append,a.1,h];rw[eD];omega,fun j b=>?_⟩
  simp only[eu];by_cases d:j<es
  ·rw[gN (by rw[a.1];exact d)];exact a.2 j d
  ·rw[gE (by rw[a.1];omega),a.1,<-l (j-es) (by rw[eD]at b;omega)]
   congr 1;rw[eD];omega
def qn(t:TypeId)(x:AV)(S:St)(K:AV->Prop):Prop:=match x with
 | .pat es y=>eU t=some (es,1)/\K y
 | .ptr es b i=>(match S b with
  | some X=>(match eU t with
   | some (es',k)=>es'=es/\X.es=es/\i+k<=X.n/\K (if k=1 then X.g i else .agg (dD X.g i k))
   | ae=>False)
  | ae=>False)
 | .fp b i f=>(match S b with
  | some X=>X.es=2/\i<X.n/\(match X.g i with
   | .big z=>if t=48/\f=1 then K (.mag z.natAbs)else if t=4/\f=0 then K (.bset (fun s=>sg s z.natAbs=z))else False
   | _=>False)
  | ae=>False)
 | _=>False
theorem qm(h:qn t x S K){w:World}(I:dX w S){vx:Value}(o:bB w S.dom x vx) :
  ∃z v,K z/\bB w S.dom z v/\(Instr.loadAt t vx).run ah w=.ok v w:=by
 cases x with
 | pat es y =>
  simp only[qn]at h;simp only[bB]at o;obtain⟨b,off,u,rfl,_,_,⟨cs,ty,fr,d,a⟩,l⟩:=o;exact⟨_,u,h.2,l,qG d h.1 a⟩
 | ptr es b i =>
  simp only[qn]at h
  cases m:S b with
  | none=>rw[m]at h;exact h.elim
  | some X =>
   rw[m]at h
   cases r:eU t with
   | none=>rw[r]at h;exact h.elim
   | some p =>
    obtain⟨es',k⟩:=p;rw[r]at h;obtain⟨rfl,rfl,N,B⟩:=h;simp only[bB]at o;subst o;obtain⟨cs,d,C,q,D⟩:=I b X m;by_cases s:k=1
    ·subst s;obtain⟨u,a,l⟩:=q i om;rw[if_pos rfl]at B;exact⟨_,u,B,l,qG d r a⟩
    ·obtain⟨vs,O,J,P⟩:=mN q k i N;rw[if_neg s]at B;have a:bB w S.dom (.agg (dD X.g i k)) (.agg (vs.flatMap (fun u=>u.cells.toList)).toArray):=by
      simp only[bB];exact⟨vs,rfl,O⟩
     refine⟨_,_,B,a,uI d r ?_ _ J (fun j q=>P j (by rw[<-J];exact q))⟩
     obtain⟨_,E,Q⟩:=qF r;intro e;rcases E with L|L<;>rw[L]at e<;>omega
 | fp b i f =>
  simp only[qn]at h
  cases m:S b with
  | none=>rw[m]at h;exact h.elim
  | some X =>
   rw[m]at h;obtain⟨F,G,h⟩:=h;simp only[bB]at o;subst o;obtain⟨cs,d,C,q,D⟩:=I b X m;obtain⟨u,a,l⟩:=q i G;rw[F]at a
   cases R:X.g i<;>rw[R]at h l<;>try exact h.elim
   rename_i z;simp only[bB]at l;obtain⟨neg,A,n,c,xs,rfl,H,T,U,rfl⟩:=l;obtain⟨x,y,E,ox,oy,V,W⟩:=a
   cases E
   have M:(sg neg (aY xs)).natAbs=aY xs:=by cases neg<;>simp[sg]
   simp only at h;split at h
   ·rename_i e;obtain⟨rfl,rfl⟩:=e;refine⟨_,.slice A n c,h,?_,qG d (rfl:eU 48=some (1,1)) ⟨W,oy⟩⟩;simp only[bB];exact⟨false,A,n,c,xs,rfl,H,T,U,by rw[M];simp[sg]⟩
   ·split at h
    ·rename_i e;obtain⟨rfl,rfl⟩:=e;exact⟨_,.bool neg,h,by simp only[bB];exact⟨neg,rfl,by rw[M]⟩,qG d (rfl:eU 4=some (1,1)) ⟨V,ox⟩⟩
    ·exact h.elim
 | _=>exact h.elim

def eZ(w:World)(b:Nat)(cs:Array Value)(ty:TypeId):World:={ w with heap:=w.heap.setIfInBounds b (.cells cs ty (0,0)) }
theorem iV(a:b<w.heap.size)(cs:Array Value)(ty:TypeId)(k:Nat):(eZ w b cs ty).heap[k]? = if k=b then some (.cells cs ty (0,0))else w.heap[k]?:=by
 simp only[eZ];by_cases e:k=b
 ·subst e;simp[a]
 ·rw[if_neg e,ct (ai e)]
theorem Ah(w:World)(b:Nat)(cs:Array Value)(ty:TypeId):(eZ w b cs ty).heap.size=w.heap.size:=by simp[eZ]
theorem Ai(h:w.heap[b]? = some (.cells cs ty (0,0))):eZ w b cs ty=w:=by
 unfold eZ;have:w.heap.setIfInBounds b (.cells cs ty (0,0))=w.heap:=by
  apply qB;intro i;by_cases e:i=b
  ·subst e;rw[kD (dW h),h]
  ·rw[ct (ai e)]
 rw[this]
theorem ve(w:World)(b:Nat)(c a:Array Value)(ty:TypeId):eZ (eZ w b c ty) b a ty=eZ w b a ty:=by
 simp[eZ]
theorem vn(h:w.heap[b]? = some (.cells cs ty (0,0)))(u:Value):w.setCell ⟨b,off,ae⟩ u=eZ w b (cs.setIfInBounds off u) ty:=by
 unfold World.setCell eZ;congr 1;apply qB;intro i;rw[Array.getElem?_modify];by_cases e:b=i
 ·subst e;rw[if_pos rfl,h,kD (dW h)];rfl
 ·rw[if_neg e,ct e]
def ew(cs:Array Value)(o:Nat):List Value->Array Value
 | []=>cs
 | v::l=>ew (cs.setIfInBounds o v) (o+1) l
theorem gS:∀(l:List Value) (cs:Array Value) (o:Nat),(ew cs o l).size=cs.size
 | [],_,_=>rfl
 | v::l,cs,o=>by simp[ew,gS l]
theorem gY:∀(l:List Value) (cs:Array Value) (o j:Nat),o+l.length<=cs.size->(ew cs o l)[j]? = if o<=j/\j<o+l.length then l[j-o]? else cs[j]?
 | [],cs,o,j,_=>by rw[if_neg (by simp only[iu];omega)];rfl
 | v::l,cs,o,j,h=>by
  simp only[cw]at h;rw[ew,gY l _ (o+1) j (by simp;omega)]
  by_cases e:j=o
  ·subst e;rw[if_neg om,if_pos sm,kD om];simp
  ·rw[ct (ai e)];by_cases a:o+1<=j/\j<o+1+l.length
   ·rw[if_pos a,if_pos (by simp;omega),(om:j-o=(j-(o+1))+1),cS]
   ·rw[if_neg a,if_neg (by simp;omega)]
theorem jx(P:Program){b off:Nat}{ty:TypeId}:∀(l:List Value) (w:World) (cs:Array Value) (i:Nat),w.heap[b]? = some (.cells cs ty (0,0))->off+i+l.length<=cs.size->(∀u∈l,one u) ->
  (storeCells ⟨b,off,ae⟩ l i).run P w=.ok () (eZ w b (ew cs (off+i) l) ty)
 | [],w,cs,i,h,_,_=>by simp[storeCells,ew,Ai h]
 | v::l,w,cs,i,h,f,e=>by
  simp only[cw]at f;have g:=e v (fP ..);have hcell:w.cell? ⟨b,off+i,ae⟩=cs[off+i]?:=nh h;have a:cs[off+i]? = some cs[off+i]:=Array.getElem?_eq_getElem om;have c:w.frozen? ⟨b,off+i,ae⟩=false:=by simp[World.frozen?,h]
  have d:(store ⟨b,off+i,ae⟩ v).run P w=.ok () (eZ w b (cs.setIfInBounds (off+i) v) ty):=by
   cases v<;>first|exact g.elim|simp[store,Sem.run,hcell,a,c,vn h]
  have ih:=jx P (b:=b) (off:=off) (ty:=ty) l (eZ w b (cs.setIfInBounds (off+i) v) ty) (cs.setIfInBounds (off+i) v) (i+1)
   (by rw[iV (dW h),if_pos rfl]) (by simp;omega) (fun u j=>e u (eA _ j))
  simp only[storeCells,ia,Sem.run_bind,d,Result.andThen_ok,ih,ve,ew];rfl
def dN:Nat->AV->Prop
 | 1,.int k _=>k≠.u32
 | 1,.bool _=>True
 | 1,.nil=>True
 | 1,.sl ..=>True
 | 1,.ptr ..=>True
 | 1,.lst ..=>True
 | 1,.pat ..=>True
 | 1,.fn ..=>True
 | 1,.nfn=>True
 | 1,.mfn ..=>True
 | 2,.big _=>True
 | _,_=>False
theorem Au(h:dN es y)(a:bB w M y v) :
  (es=1/\one v/\li v)∨(es=2/\∃p q,v=.agg #[p,q]/\one p/\one q/\li p/\li q):=by
 match es,y,h,a with
 | 1,.int k n,h,a =>
  simp only[bB]at a;subst a;refine bn ⟨rfl,trivial,?_⟩
  cases k<;>first|trivial|exact absurd rfl h
 | 1,.bool _,h,a=>simp only[bB]at a;subst a;exact bn ⟨rfl,trivial,trivial⟩
 | 1,.nil,h,a=>simp only[bB]at a;subst a;exact bn ⟨rfl,trivial,trivial⟩
 | 1,.sl ..,h,a=>simp only[bB]at a;obtain⟨_,_,_,_,rfl,_⟩:=a;exact bn ⟨rfl,trivial,trivial⟩
 | 1,.ptr ..,h,a=>simp only[bB]at a;subst a;exact bn ⟨rfl,trivial,trivial⟩
 | 1,.lst ..,h,a=>simp only[bB]at a;obtain⟨_,_,rfl,_⟩:=a;exact bn ⟨rfl,trivial,trivial⟩
 | 1,.pat ..,h,a=>simp only[bB]at a;obtain⟨_,_,_,rfl,_⟩:=a;exact bn ⟨rfl,trivial,trivial⟩
 | 1,.fn ..,h,a=>simp only[bB]at a;obtain⟨_,rfl,_⟩:=a;exact bn ⟨rfl,trivial,trivial⟩
 | 1,.nfn,h,a=>simp only[bB]at a;subst a;exact bn ⟨rfl,trivial,trivial⟩
 | 1,.mfn ..,h,a=>simp only[bB]at a;obtain⟨_,rfl,_⟩:=a;exact bn ⟨rfl,trivial,trivial⟩
 | 2,.big z,h,a =>
  simp only[bB]at a;obtain⟨neg,A,n,c,xs,rfl,_⟩:=a;exact Or.inr ⟨rfl,_,_,rfl,trivial,trivial,trivial,trivial⟩
theorem qE(h:dN es y)(e:bB w M y v) :
  v.cells.size=es/\(∀u∈v.cells.toList,one u/\li u)/\∀(cs:Array Value) (o:Nat),(∀j,j<es->cs[o+j]? = v.cells[j]?)->reads cs o es v:=by
 rcases Au h e with⟨rfl,a,c⟩|⟨rfl,p,q,rfl,a,c,f,g⟩
 ·rw[qJ a];refine⟨rfl,fun u b=>by simp at b;subst b;exact⟨a,c⟩,fun cs o d=>?_⟩
  have:=d 0 om;simp only[reads];exact⟨by simpa using this,a⟩
 ·refine⟨rfl,fun u b=>?_,fun cs o d=>?_⟩
  ·simp[Value.cells]at b;rcases b with rfl|rfl
   ·exact⟨a,f⟩
   ·exact⟨c,g⟩
  ·simp only[reads];exact⟨p,q,rfl,a,c,by simpa [Value.cells]using d 0 om,by simpa [Value.cells]using d 1 om⟩
theorem Jz(h:S b≠ae):(S.upd b X).dom=S.dom:=by
 funext k;simp only[St.dom,St.upd];by_cases e:k=b
 ·subst e;simp[h]
 ·simp[e]
theorem dX.write(i:dX w S){b:Nat}{X X':dH}(r:S b=some X){cs cs':Array Value}(s:w.heap[b]? = some (.cells cs X.ty (0,0)))(l:cs'.size=cs.size)
  (t:X'.ty=X.ty) (v:X'.es*X'.n<=cs'.size) (x:∀j,j<X'.n->∃u,reads cs' (X'.es*j) X'.es u/\bB w S.dom (X'.g j) u) (z:∀(k:Nat) (y:Value),cs'[k]? = some y->li y) :
  dX (eZ w b cs' X.ty) (S.upd b X')/\cG S.dom (S.upd b X').dom w (eZ w b cs' X.ty):=by
 have a:=dW s;have A:(S.upd b X').dom=S.dom:=Jz (by rw[r];simp)
 have m:cG S.dom (S.upd b X').dom w (eZ w b cs' X.ty):=by
  rw[A];refine⟨rfl,rfl,rfl,by rw[Ah];exact af _,fun k G B=>?_,fun k c ty fr o=>?_,fun _ _ h=>h⟩
  ·rw[iV a,if_neg];intro e;subst e;exact B (by simp[St.dom,r])
  ·rw[iV a];by_cases e:k=b
   ·subst e;rw[s]at o;cases o;exact⟨cs',by rw[if_pos rfl],l⟩
   ·exact⟨c,by rw[if_neg e];exact o,rfl⟩
 refine⟨fun k Y f=>?_,m⟩;simp only[St.upd]at f;by_cases e:k=b
 ·subst e;rw[if_pos rfl]at f
  cases f
  refine⟨cs',by rw[iV a,if_pos rfl,t],v,fun j d=>?_,z⟩
  obtain⟨u,p,q⟩:=x j d;exact⟨u,p,bB.grow i.noU m _ _ q⟩
 ·rw[if_neg e]at f;obtain⟨c,p,q,C,D⟩:=i k Y f;refine⟨c,by rw[iV a,if_neg e];exact p,q,fun j d=>?_,D⟩
  obtain⟨u,E,F⟩:=C j d;exact⟨u,E,bB.grow i.noU m _ _ F⟩
theorem dX.new(f:dX w S){X:dH}{cs:Array Value}(p:X.es*X.n<=cs.size)
  (q:∀j,j<X.n->∃u,reads cs (X.es*j) X.es u/\bB w S.dom (X.g j) u) (r:∀(k:Nat) (y:Value),cs[k]? = some y->li y) :
  S w.heap.size=ae/\dX (w.alloc (.cells cs X.ty)) (S.upd w.heap.size X)/\cG S.dom (S.upd w.heap.size X).dom w (w.alloc (.cells cs X.ty)):=by
 have hnone:S w.heap.size=ae:=by
  cases e:S w.heap.size with
  | none=>rfl
  | some Y =>
   obtain⟨c,b,_⟩:=f _ Y e;exact absurd (dW b) (Nat.lt_irrefl _)
 have h:∀k,(w.alloc (.cells cs X.ty)).heap[k]? = if k=w.heap.size then some (.cells cs X.ty (0,0))else w.heap[k]?:=by
  intro k;show(w.heap.push _)[k]? = _;rw[Array.getElem?_push]
 have i:cG S.dom (S.upd w.heap.size X).dom w (w.alloc (.cells cs X.ty)):=by
  refine⟨rfl,rfl,rfl,sm,fun k s _=>?_,fun k c ty fr o=>⟨c,?_,rfl⟩,fun k s l=>?_⟩
  ·rw[h,if_neg om]
  ·rw[h,if_neg (by have:=dW o;omega)];exact o
  ·simp only[St.dom,St.upd]at l;rw[if_neg om]at l;exact l
 refine⟨hnone,fun k Y d=>?_,i⟩;simp only[St.upd]at d;by_cases e:k=w.heap.size
 ·rw[if_pos e]at d
  cases d
  refine⟨cs,by rw[h,if_pos e],p,fun j a=>?_,r⟩
  obtain⟨u,b,m⟩:=q j a;exact⟨u,b,bB.grow f.noU i _ _ m⟩
 ·rw[if_neg e]at d;obtain⟨c,b,m,t,v⟩:=f k Y d;refine⟨c,by rw[h,if_neg e];exact b,m,fun j a=>?_,v⟩
  obtain⟨u,x,z⟩:=t j a;exact⟨u,x,bB.grow f.noU i _ _ z⟩

def BI(s:Sem Value)(w:World)(S:St)(K:AV->St->Prop):Prop :=
 ∃z v w' S',K z S'/\bB w' S'.dom z v/\dX w' S'/\cG S.dom S'.dom w w'/\s.run ah w=.ok v w'
def aL(g:Nat->AV)(i:Nat)(y:AV):Nat->AV:=fun j=>if j=i then y else g j
def eJ(g:Nat->AV)(i:Nat)(l:List AV):Nat->AV:=fun j=>if i<=j/\j<i+l.length then l.getD (j-i) .any else g j
def rQ(t:TypeId)(x y:AV)(S:St)(K:St->Prop):Prop:=match x with
 | .ptr es b i=>(match S b with
  | some X=>(match eU t with
   | some (es',k)=>es'=es/\X.es=es/\i+k<=X.n/\(if k=1 then dN es y/\K (S.upd b { X with g:=aL X.g i y })else(match y with
    | .agg l=>l.length=k/\(∀z∈l,dN es z)/\K (S.upd b { X with g:=eJ X.g i l })
    | _=>False))
   | ae=>False)
  | ae=>False)
 | _=>False
theorem gX{w:World}{M:Nat->Prop}{es:Nat}:∀(l:List AV) (vs:List Value),a6 w M l vs->(∀z∈l,dN es z) ->
  vs.length=l.length/\(vs.flatMap (fun u=>u.cells.toList)).length=es*l.length/\(∀u∈vs.flatMap (fun u=>u.cells.toList),one u/\li u) /\
  ∀j,j<l.length->∃u,bB w M (l.getD j .any) u/\∀(cs:Array Value) (o:Nat),(∀q,q<es*l.length->cs[o+q]? = (vs.flatMap (fun u=>u.cells.toList))[q]?)->reads cs (o+es*j) es u
 | [],[],_,_=>⟨rfl,sm,sm,fun j e=>by simp at e⟩
 | a::l,v::vs,d,k=>by
  simp only[a6]at d;have n:=k a (fP ..);obtain⟨p,r,s⟩:=qE n d.1;obtain⟨t,x,y,A⟩:=gX l vs d.2 (fun z B=>k z (eA _ B));have c:v.cells.toList.length=es:=by simpa using p
  refine⟨by simp[t],by simp only[eu,List.length_append,c,x,cw];rw[eD];omega,fun u b=>?_,fun j e=>?_⟩
  ·simp only[eu,List.mem_append]at b;rcases b with b|b
   ·exact r u b
   ·exact y u b
  ·simp only[cw]at e
   cases j with
   | zero =>
    refine⟨v,by simpa using d.1,fun cs o f=>?_⟩
    rw[dB,cn];refine s cs o (fun q C=>?_);rw[f q (by rw[cw,eD];omega),eu,gN om]
    simp
   | succ j =>
    obtain⟨u,g,i⟩:=A j om;refine⟨u,by simpa using g,fun cs o f=>?_⟩
    have:=i cs (o+es) (fun q C=>by
     have m:=f (es+q) (by rw[cw,eD];omega)
     rw[eu,gE om,c,(om:es+q-es=q)]at m
     rw[<-m];congr 1;omega)
    rw[eD,(om:o+(es*j+es)=o+es+es*j)]
    exact this
 | [],_::_,h,_=>by simp[a6]at h
 | _::_,[],h,_=>by simp[a6]at h
theorem jX{o:Nat}(h:reads cs o es u)(hsame:∀q,q<es->cs'[o+q]? = cs[o+q]?):reads cs' o es u:=by
 match es,h with
 | 1,h=>simp only[reads]at h ⊢;have:=hsame 0 om;simp only[cn]at this;exact⟨by rw[this];exact h.1,h.2⟩
 | 2,h =>
  simp only[reads]at h ⊢;obtain⟨x,y,e,a,b,c,d⟩:=h;have s0:=hsame 0 om;have s1:=hsame 1 om;simp only[cn]at s0;exact⟨x,y,e,a,b,by rw[s0];exact c,by rw[s1];exact d⟩
theorem pD(t:dX w S){b:Nat}{X:dH}(v:S b=some X)(l:List AV)(vs:List Value)(B:a6 w S.dom l vs)(C:∀z∈l,dN X.es z)(i:Nat)(D:i+l.length<=X.n) :
  ∃cs,w.heap[b]? = some (.cells cs X.ty (0,0))/\X.es*i+(vs.flatMap (fun u=>u.cells.toList)).length<=cs.size/\(∀u∈vs.flatMap (fun u=>u.cells.toList),one u) /\
   dX (eZ w b (ew cs (X.es*i) (vs.flatMap (fun u=>u.cells.toList))) X.ty) (S.upd b { X with g:=eJ X.g i l }) /\
   cG S.dom (S.upd b { X with g:=eJ X.g i l }).dom w (eZ w b (ew cs (X.es*i) (vs.flatMap (fun u=>u.cells.toList))) X.ty):=by
 obtain⟨cs,x,c,E,f⟩:=t b X v;obtain⟨H,m,A,F⟩:=gX l vs B C;have a:X.es*i+(vs.flatMap (fun u=>u.cells.toList)).length<=cs.size:=by
  rw[m,<-bU];exact bI (aQ _ D) c
 refine⟨cs,x,a,fun u f=>(A u f).1,?_⟩;refine dX.write t v x (gS _ _ _) rfl (by rw[gS];exact c) (fun j o=>?_) (fun k y e=>?_)
 ·show ∃u,reads _ (X.es*j) X.es u/\bB w S.dom (eJ X.g i l j) u;unfold eJ;by_cases d:i<=j/\j<i+l.length
  ·rw[if_pos d];obtain⟨u,p,r⟩:=F (j-i) om;refine⟨u,?_,p⟩;have:=r (ew cs (X.es*i) (vs.flatMap (fun u=>u.cells.toList))) (X.es*i) (fun q G=>by
    rw[gY _ _ _ _ a,if_pos (by rw[m];omega)];congr 1;omega)
   rw[<-bU,(om:i+(j-i)=j)]at this
   exact this
  ·rw[if_neg d];obtain⟨u,p,r⟩:=E j o;refine⟨u,jX p (fun q G=>?_),r⟩;rw[gY _ _ _ _ a,if_neg];rw[m];intro I;have s:j<i∨i+l.length<=j:=om
   rcases s with h|h
   ·have:X.es*(j+1)<=X.es*i:=aQ _ h;rw[eD]at this;omega
   ·have:X.es*(i+l.length)<=X.es*j:=aQ _ h;rw[bU]at this;omega
 ·rw[gY _ _ _ _ a]at e;split at e
  ·exact(A y (cR e)).2
  ·exact f k y e
theorem FP(g:Nat->AV)(i:Nat)(y:AV):eJ g i [y]=aL g i y:=by
 funext j;simp only[eJ,aL,cw,iu];by_cases e:j=i
 ·subst e;rw[if_pos om,if_pos rfl];simp
 ·rw[if_neg om,if_neg e]
theorem uH{t:Nat}(h:w.heap[b]? = some (.cells cs ty (0,0)))(g:eU t=some (es,k))(v:Value)(j:v.cells.size=es*k)
  (a:off+v.cells.size<=cs.size) (l:∀u∈v.cells.toList,one u) :
  (Instr.storeAt t (.pointer (some ⟨b,off,ae⟩)) v).run ah w=.ok () (eZ w b (ew cs off v.cells.toList) ty):=by
 obtain⟨c,_,_⟩:=qF g;obtain⟨i,d,m,n,o,p⟩:=wy c;have f:=jx ah (b:=b) (off:=off) (ty:=ty) v.cells.toList w cs 0 h (by simpa using a) l
 rw[cn]at f;have e:¬(v.cells.size≠i.size):=by rw[n,j];simp
 simp only[Instr.storeAt,Instr.sureAddr,pure_bind,storeVar,Sem.run_bind,cJ m,Result.andThen_ok];rw[if_neg e];simp[f]
theorem Bv{K:St->Prop}(h:rQ t x y S K){w:World}(r:dX w S){vx vy:Value}(s:bB w S.dom x vx)(m:bB w S.dom y vy) :
  ∃w' S',K S'/\dX w' S'/\cG S.dom S'.dom w w'/\(Instr.storeAt t vx vy).run ah w=.ok () w':=by
 cases x with
 | ptr es b i =>
  simp only[rQ]at h
  cases n:S b with
  | none=>rw[n]at h;exact h.elim
  | some X =>
   rw[n]at h
   cases o:eU t with
   | none=>rw[o]at h;exact h.elim
   | some p =>
    obtain⟨es',k⟩:=p;rw[o]at h;obtain⟨rfl,rfl,v,c⟩:=h;simp only[bB]at s;subst s;by_cases d:k=1
    ·subst d;rw[if_pos rfl]at c;obtain⟨cs,q,a,e,f,g⟩:=pD r n [y] [vy] (by simp only[a6];exact⟨m,trivial⟩) (fun z A=>by simp at A;subst A;exact c.1) i (by simpa using v)
     simp only[eu,List.flatMap_nil,List.append_nil]at a e f g;rw[FP]at f g;refine⟨_,_,c.2,f,g,?_⟩;obtain⟨E,_,_⟩:=qE c.1 m;exact uH q o vy (by rw[E,Nat.mul_one]) (by simpa using a) e
    ·rw[if_neg d]at c
     cases y with
     | agg l =>
      simp only at c;obtain⟨B,j,c⟩:=c;simp only[bB]at m;obtain⟨vs,rfl,C⟩:=m;obtain⟨cs,q,a,e,f,g⟩:=pD r n l vs C j i (by rw[B];exact v)
      refine⟨_,_,c,f,g,?_⟩;obtain⟨_,D,_,_⟩:=gX l vs C j;generalize vs.flatMap (fun u=>u.cells.toList)=fl at a e D ⊢;exact uH (off:=X.es*i) q o (.agg fl.toArray) (by show fl.toArray.size=_;rw[cb,D,B]) (by show _+fl.toArray.size<=_;rw[cb];exact a) e
     | _=>exact c.elim
 | _=>exact h.elim

theorem ed.zero(w:World):ed w w.heap.size (.agg #[.bool false,.slice ae 0 0]) 0 :=
 ⟨false,ae,0,0,[],rfl,af _,⟨rfl,by simp[mp],fun h=>absurd h om⟩,by intro x a;simp at a,by simp[aY,sg]⟩
def fD:TypeId->Option (Nat×AV×Value)
 | 2=>some (1,.int .i64 0,.int .i64 0)
 | 3=>some (1,.int .i64 0,.int .i64 0)
 | 4=>some (1,.bool false,.bool false)
 | 28=>some (1,.nil,.slice ae 0 0)
 | 29=>some (1,.nil,.slice ae 0 0)
 | 52=>some (1,.nil,.slice ae 0 0)
 | 59=>some (1,.nil,.slice ae 0 0)
 | 50=>some (2,.big 0,.agg #[.bool false,.slice ae 0 0])
 | _=>ae
def lN(P:Program)(t:TypeId):Option (Value×Nat×Nat):=(P.info? t).bind fun i=>i.zero.map fun z=>(z,i.size,i.bytes)
theorem nV{t:Nat}(h:fD t=some (es,x,z)):∃i,ah.info? t=some i/\i.zero=some z/\i.size=es/\i.bytes<=32/\0<es/\z.cells.size=es/\dN es x/\∀w M,bB w M x z:=by
 have key:∀(z':Value) (s b:Nat),lN ah t=some (z',s,b)->b<=32->∃i,ah.info? t=some i/\i.zero=some z'/\i.size=s/\i.bytes<=32:=by
  intro z' s b f j;unfold lN at f
  cases g:ah.info? t with
  | none=>rw[g]at f;simp at f
  | some i =>
   rw[g]at f;simp only[dM,eC,Prod.mk.injEq]at f;obtain⟨z2,a,c,d,e⟩:=f;exact⟨i,rfl,by rw[a,c],d,om⟩
 unfold fD at h;split at h
 ·cases h;obtain⟨i,a,c,d,e⟩:=key (.int .i64 0) 1 8 kr om;exact⟨i,a,c,d,e,om,rfl,by simp[dN],fun w M=>by simp[bB]⟩
 ·cases h;obtain⟨i,a,c,d,e⟩:=key (.int .i64 0) 1 8 kr om;exact⟨i,a,c,d,e,om,rfl,by simp[dN],fun w M=>by simp[bB]⟩
 ·cases h;obtain⟨i,a,c,d,e⟩:=key (.bool false) 1 1 kr om;exact⟨i,a,c,d,e,om,rfl,by simp[dN],fun w M=>by simp[bB]⟩
 ·cases h;obtain⟨i,a,c,d,e⟩:=key (.slice ae 0 0) 1 24 kr om;exact⟨i,a,c,d,e,om,rfl,by simp[dN],fun w M=>by simp[bB]⟩
 ·cases h;obtain⟨i,a,c,d,e⟩:=key (.slice ae 0 0) 1 24 kr om;exact⟨i,a,c,d,e,om,rfl,by simp[dN],fun w M=>by simp[bB]⟩
 ·cases h;obtain⟨i,a,c,d,e⟩:=key (.slice ae 0 0) 1 24 kr om;exact⟨i,a,c,d,e,om,rfl,by simp[dN],fun w M=>by simp[bB]⟩
 ·cases h;obtain⟨i,a,c,d,e⟩:=key (.slice ae 0 0) 1 24 kr om;exact⟨i,a,c,d,e,om,rfl,by simp[dN],fun w M=>by simp[bB]⟩
 ·cases h;obtain⟨i,a,c,d,e⟩:=key (.agg #[.bool false,.slice ae 0 0]) 2 32 kr om;exact⟨i,a,c,d,e,om,rfl,by simp[dN],fun w M=>by simp only[bB];exact ed.zero w⟩
 ·cases h
theorem lr(c:dX w S){es:Nat}(t:TypeId)(l:List AV)(vs:List Value)(d:a6 w S.dom l vs)(e:∀z∈l,dN es z) :
  S w.heap.size=ae/\dX (w.alloc (.cells (vs.flatMap (fun u=>u.cells.toList)).toArray t)) (S.upd w.heap.size ⟨t,es,l.length,fun j=>l.getD j .any⟩) /\
   cG S.dom (S.upd w.heap.size ⟨t,es,l.length,fun j=>l.getD j .any⟩).dom w (w.alloc (.cells (vs.flatMap (fun u=>u.cells.toList)).toArray t))/\(vs.flatMap (fun u=>u.cells.toList)).length=es*l.length:=by
 obtain⟨n,a,f,g⟩:=gX l vs d e;have:=dX.new c (X:=⟨t,es,l.length,fun j=>l.getD j .any⟩) (cs:=(vs.flatMap (fun u=>u.cells.toList)).toArray) (by simp only[cb];rw[a];exact af _) (fun j h=>by
   obtain⟨u,i,m⟩:=g j h;refine⟨u,?_,i⟩;have:=m (vs.flatMap (fun u=>u.cells.toList)).toArray 0 (fun q _=>by simp)
   simpa using this) (fun k y b=>by
   rw[fG]at b;exact(f y (cR b)).2)
 exact⟨this.1,this.2.1,this.2.2,a⟩
theorem jG{w:World}{M:Nat->Prop}{x:AV}{v:Value}(h:bB w M x v):∀n,a6 w M (bV n x) (bV n v)
 | 0=>by simp[a6]
 | n+1=>by simp only[lF,a6];exact⟨h,jG h n⟩
theorem dX.reg{Y:dH}(h:dX w (S.upd b X))(l:Y.ty=X.ty)(d:Y.es=X.es)(f:Y.n=X.n)(m:∀j,j<X.n->Y.g j=X.g j):dX w (S.upd b Y)/\(S.upd b Y).dom=(S.upd b X).dom:=by
 have i:(S.upd b Y).dom=(S.upd b X).dom:=by
  funext k;simp only[St.dom,St.upd];by_cases e:k=b<;>simp[e]
 refine⟨fun k Z a=>?_,i⟩;rw[i];simp only[St.upd]at a;by_cases e:k=b
 ·rw[if_pos e]at a
  cases a
  obtain⟨cs,o,p,q,r⟩:=h k X (by simp[St.upd,e])
  refine⟨cs,by rw[l];exact o,by rw[d,f];exact p,fun j c=>?_,r⟩
  rw[f]at c;obtain⟨u,s,t⟩:=q j c;rw[d,m j c];exact⟨u,s,t⟩
 ·rw[if_neg e]at a;exact h k Z (by simp[St.upd,e,a])
theorem xz{n:Nat}(h:j<n)(x d:AV):(bV n x).getD j d=x:=by simp[cK,h]
def nQ(t:TypeId)(S:St)(K:AV->St->Prop):Prop:=match fD t with
 | some (es,x,_)=>∀b,S b=ae->K (.ptr es b 0) (S.upd b ⟨t,es,1,fun _=>x⟩)
 | ae=>(match t with
  | 167=>∀b,S b=ae->K (.ptr 2 b 0) (S.upd b ⟨167,2,2,fun _=>.big 0⟩)
  | 197=>∀b,S b=ae->K (.ptr 2 b 0) (S.upd b ⟨197,2,7,fun _=>.big 0⟩)
  | 218=>∀b,S b=ae->K (.ptr 1 b 0) (S.upd b ⟨218,1,2,fun j=>if j=0 then .nil else .int .i64 0⟩)
  | 202=>∀b,S b=ae->K (.ptr 1 b 0) (S.upd b ⟨202,1,2,fun _=>.int .u64 0⟩)
  | _=>False)
theorem zC(a:ah.info? t=some i)(b:i.zero=some z)(w:World) :
  (Instr.alloc t true (.tuple #[])).run ah w=.ok (.pointer (some ⟨w.heap.size,0,ae⟩)) (w.alloc (.cells z.cells t)):=by
 simp[Instr.alloc,zeroValue,typeInfo,a,b,newVar,newRow]
theorem mR(a:dX w S){t es:Nat}(l:List AV)(vs:List Value){i:TypeInfo}{z:Value}(c:ah.info? t=some i)(d:i.zero=some z)(e:z.cells=(vs.flatMap (fun u=>u.cells.toList)).toArray)
  (f:a6 w S.dom l vs) (h:∀y∈l,dN es y) (Y:dH) (k:Y.ty=t) (m:Y.es=es) (o:Y.n=l.length) (p:∀j,j<l.length->Y.g j=l.getD j .any) {K:AV->St->Prop} (q:∀b,S b=ae->K (.ptr es b 0) (S.upd b Y)) :
  BI (Instr.alloc t true (.tuple #[])) w S K:=by
 obtain⟨r,s,v,_⟩:=lr a t l vs f h;obtain⟨x,A⟩:=dX.reg s (Y:=Y) k m o p;refine⟨_,.pointer (some ⟨w.heap.size,0,ae⟩),_,_,q _ r,by simp[bB],x,by rw[A];exact v,?_⟩
 rw[zC c d,e]
theorem By{K:AV->St->Prop}(h:nQ t S K){w:World}(g:dX w S):BI (Instr.alloc t true (.tuple #[])) w S K:=by
 have key:∀(z':Value) (s b:Nat),lN ah t=some (z',s,b)->∃i,ah.info? t=some i/\i.zero=some z':=by
  intro z' s b f;unfold lN at f
  cases l:ah.info? t with
  | none=>rw[l]at f;simp at f
  | some i =>
   rw[l]at f;simp only[dM,eC,Prod.mk.injEq]at f;obtain⟨z2,d,e,m,n⟩:=f;exact⟨i,rfl,by rw[d,e]⟩
 unfold nQ at h
 cases k:fD t with
 | some p =>
  obtain⟨es,x,z⟩:=p;rw[k]at h;obtain⟨i,d,e,m,n,r,u,o,q⟩:=nV k;exact mR g [x] [z] d e sm (by simp only[a6];exact⟨q _ _,trivial⟩) (fun y a=>by simp at a;subst a;exact o) ⟨t,es,1,fun _=>x⟩ rfl rfl rfl (fun j c=>by simp at c;subst c;rfl) h
 | none =>
  rw[k]at h;have zb:∀M,bB w M (.big 0) (.agg #[.bool false,.slice ae 0 0]):=fun M=>by simp only[bB];exact ed.zero w
  simp only at h;split at h
  ·obtain⟨i,d,e⟩:=key (.agg #[.bool false,.slice ae 0 0,.bool false,.slice ae 0 0]) 4 64 kr
   exact mR g (bV 2 (.big 0)) (bV 2 (.agg #[.bool false,.slice ae 0 0])) d e rfl (jG (zb _) 2) (fun y a=>by rw[jo a];simp[dN]) ⟨167,2,2,fun _=>.big 0⟩ rfl rfl rfl
    (fun j c=>(xz (by rw[vH]at c;exact c) _ _).symm) h
  ·obtain⟨i,d,e⟩:=key (.agg (bV 7 [.bool false,.slice ae 0 0]).flatten.toArray) 14 224 kr
   exact mR g (bV 7 (.big 0)) (bV 7 (.agg #[.bool false,.slice ae 0 0])) d e rfl (jG (zb _) 7) (fun y a=>by rw[jo a];simp[dN]) ⟨197,2,7,fun _=>.big 0⟩ rfl rfl rfl
    (fun j c=>(xz (by rw[vH]at c;exact c) _ _).symm) h
  ·obtain⟨i,d,e⟩:=key (.agg #[.slice ae 0 0,.int .i64 0]) 2 32 kr
   exact mR g [.nil,.int .i64 0] [.slice ae 0 0,.int .i64 0] d e rfl (by simp[a6,bB]) (fun y a=>by simp at a;rcases a with rfl|rfl<;>simp[dN]) ⟨218,1,2,fun j=>if j=0 then .nil else .int .i64 0⟩ rfl rfl rfl
    (fun j c=>by match j with
     | 0=>rfl
     | 1=>rfl
     | j+2=>exact absurd c (by simp only[cw,iu];omega)) h
  ·obtain⟨i,d,e⟩:=key (.agg #[.int .u64 0,.int .u64 0]) 2 16 kr
   exact mR g [.int .u64 0,.int .u64 0] [.int .u64 0,.int .u64 0] d e rfl (by simp[a6,bB]) (fun y a=>by simp at a;subst a;simp[dN]) ⟨202,1,2,fun _=>.int .u64 0⟩ rfl rfl rfl
    (fun j c=>by match j with
     | 0=>rfl
     | 1=>rfl
     | j+2=>exact absurd c (by simp only[cw,iu];omega)) h
  ·exact h.elim

def jT(t:TypeId)(x:AV)(S:St)(K:AV->St->Prop):Prop:=match eU t with
 | some (es,k)=>if k=1 then dN es x/\∀b,S b=ae->K (.ptr es b 0) (S.upd b ⟨t,es,1,fun _=>x⟩)else(match x with
  | .agg l=>l.length=k/\(∀z∈l,dN es z)/\∀b,S b=ae->K (.ptr es b 0) (S.upd b ⟨t,es,k,fun j=>l.getD j .any⟩)
  | _=>False)
 | ae=>False
theorem EY(t:TypeId)(v:Value)(w:World):(Instr.box t v).run ah w=.ok (.pointer (some ⟨w.heap.size,0,ae⟩)) (w.alloc (.cells v.cells t)):=by
 simp[Instr.box,newVar,newRow]
theorem Ew{t:TypeId}{x:AV}{S:St}{K:AV->St->Prop}(h:jT t x S K){w:World}(g:dX w S){v:Value}(d:bB w S.dom x v):BI (Instr.box t v) w S K:=by
 unfold jT at h
 cases i:eU t with
 | none=>rw[i]at h;exact h.elim
 | some p =>
  obtain⟨es,k⟩:=p;rw[i]at h;simp only at h;by_cases a:k=1
  ·rw[if_pos a]at h;obtain⟨e,b,c,_⟩:=lr g t [x] [v] (by simp only[a6];exact⟨d,trivial⟩) (fun z m=>by simp at m;subst m;exact h.1)
   obtain⟨o,q⟩:=dX.reg b (Y:=⟨t,es,1,fun _=>x⟩) rfl rfl rfl (fun j n=>by simp at n;subst n;rfl)
   refine⟨_,.pointer (some ⟨w.heap.size,0,ae⟩),_,_,h.2 _ e,by simp[bB],o,by rw[q];exact c,?_⟩
   rw[EY];simp
  ·rw[if_neg a]at h
   cases x with
   | agg l =>
    simp only at h;obtain⟨r,f,s⟩:=h;simp only[bB]at d;obtain⟨vs,rfl,u⟩:=d;obtain⟨e,b,c,_⟩:=lr g t l vs u f;rw[r]at b c;exact⟨_,.pointer (some ⟨w.heap.size,0,ae⟩),_,_,s _ e,by simp[bB],b,c,EY ..⟩
   | _=>exact h.elim
def dw:TypeId->Option TypeId
 | 22=>some 41
 | 28=>some 29
 | 29=>some 2
 | 52=>some 59
 | 59=>some 50
 | 146=>some 3
 | 192=>some 52
 | 216=>some 59
 | _=>ae
def bS:TypeId->Nat
 | 50=>2
 | _=>1
def eChk(P:Program)(t:TypeId):Option (TypeId×Nat):=(P.underlying t).bind fun
 | .slice e=>(P.info? e).map fun i=>(e,i.size)
 | _=>ae
theorem iN(h:dw t=some e):ah.underlying t=some (.slice e)/\∃i,ah.info? e=some i/\i.size=bS e:=by
 have key:∀s,eChk ah t=some (e,s)->ah.underlying t=some (.slice e)/\∃i,ah.info? e=some i/\i.size=s:=by
  intro s a;unfold eChk at a
  cases b:ah.underlying t with
  | none=>rw[b]at a;simp at a
  | some d =>
   rw[b]at a
   cases d<;>simp only[dM,eC,Prod.mk.injEq,reduceCtorEq]at a
   obtain⟨i,c,rfl,f⟩:=a;exact⟨rfl,i,c,f⟩
 unfold dw at h;split at h<;>first
  | (cases h;exact key _ kr)
  | cases h
def rR(t:TypeId)(x i:AV)(K:AV->Prop):Prop:=match dw t,x,i with
 | some e,.sl es b off len,.int _ n=>es=bS e/\(0<=n/\n<(len:Int))/\K (.ptr es b (off+n.toNat))
 | some e,.lst es len g,.int _ n=>es=bS e/\(0<=n/\n<(len:Int))/\K (.pat es (g n.toNat))
 | ae,.ptr es b k,.int _ n=>(es=2/\t=195)/\(0<=n/\n<2)/\K (.ptr 2 b (k+n.toNat))
 | _,_,_=>False
theorem uJ(a:dw t=some e)(w:World)(b off len cap:Nat)(k:IntKind)(n:Int)(c:0<=n)(d:n<(len:Int)) :
  (Instr.indexAt t (.slice (some ⟨b,off,ae⟩) len cap) (.int k n)).run ah w=.ok (.pointer (some ⟨b,off+n.toNat*bS e,ae⟩)) w:=by
 obtain⟨f,i,g,h⟩:=iN a;have j:0<=n/\n<(len:Int):=⟨c,d⟩;simp[Instr.indexAt,asIntOf,run_underlying f,cJ g,h,ia,j]
theorem sZ(h:rR t x y K){w:World}{M:Nat->Prop}{vx vy:Value}(a:bB w M x vx)(d:bB w M y vy) :
  ∃z v,K z/\bB w M z v/\(Instr.indexAt t vx vy).run ah w=.ok v w:=by
 unfold rR at h;split at h
 ·rename_i e es b off len k n m;obtain⟨rfl,⟨f,j⟩,l⟩:=h;simp only[bB]at a d;obtain⟨cap,cs,ty,fr,rfl,_,_,_⟩:=a;subst d;refine⟨_,_,l,?_,uJ m w b _ len cap k n f j⟩;simp only[bB];rw[bU,av (bS e) n.toNat]
 ·rename_i e es len g k n m;obtain⟨rfl,⟨f,j⟩,l⟩:=h;simp only[bB]at a d;obtain⟨A,c,rfl,p,s⟩:=a;subst d;obtain⟨b,off,rfl,o,B,C⟩:=s om;obtain⟨u,q,r⟩:=C n.toNat om;refine⟨_,_,l,?_,uJ m w b _ len c k n f j⟩;simp only[bB];exact⟨b,_,u,by rw[av],o,B,by rw[av];rw[av]at q;exact q,r⟩
 ·rename_i es b k kk n m;obtain⟨⟨rfl,rfl⟩,⟨f,j⟩,l⟩:=h;simp only[bB]at a d;subst a d;obtain⟨r,i,D,E⟩:=iN (t:=59) (e:=50) rfl;refine⟨_,.pointer (some ⟨b,2*k+n.toNat*2,ae⟩),l,?_,?_⟩
  ·simp only[bB];rw[bU,av n.toNat]
  ·have p:0<=n/\n<2:=⟨f,j⟩;simp[Instr.indexAt,Instr.sureAddr,asIntOf,run_underlying underlying195,cJ D,E,ia,p,bS]
 ·exact h.elim
def lj(t:TypeId)(x y:AV)(S:St)(K:AV->St->Prop):Prop:=match dw t,x with
 | some e,.int _ n=>(match fD e with
  | some (es,z,_)=>x=y/\es=bS e/\(0<=n/\n<=1099511627776)/\∀b,S b=ae->K (.sl es b 0 n.toNat) (S.upd b ⟨e,es,n.toNat,fun _=>z⟩)
  | ae=>False)
 | _,_=>False
theorem mn(z:Value)(n:Nat):madeCells z.cells (n*z.cells.size)=((bV n z).flatMap (fun u=>u.cells.toList)).toArray:=by
 apply qB;intro i;simp only[madeCells,Array.getElem?_map,fG]
 induction n generalizing i with
 | zero=>simp
 | succ n ih =>
  simp only[lF,eu];by_cases h:i<z.cells.size
  ·rw[gN (by simpa using h)]
   have a:i<(n+1)*z.cells.size:=by rw[ck];omega
   simp[a,Nat.mod_eq_of_lt h,h]
  ·rw[gE (by simp;omega)]
   have:=ih (i-z.cells.size);simp only[Array.length_toList];rw[<-this];by_cases a:i<(n+1)*z.cells.size
   ·have b:i-z.cells.size<n*z.cells.size:=by rw[ck]at a;omega
    have c:i%z.cells.size=(i-z.cells.size)%z.cells.size:=by
     rw[Nat.mod_eq_sub_mod om]
    simp[a,b,c]
   ·have b:¬i-z.cells.size<n*z.cells.size:=by rw[ck]at a;omega
    simp[a,b]
theorem C3{K:AV->St->Prop}(h:lj t x y S K){w:World}(s:dX w S){vx vy:Value}(d:bB w S.dom x vx)(b:bB w S.dom y vy):BI (Instr.makeSlice t vx vy) w S K:=by
 unfold lj at h;split at h
 ·rename_i e k n u
  cases c:fD e with
  | none=>rw[c]at h;exact h.elim
  | some p =>
   obtain⟨es,z,zv⟩:=p;rw[c]at h;obtain⟨rfl,rfl,⟨f,M⟩,v⟩:=h;obtain⟨A,i,g,B⟩:=iN u;obtain⟨i',l,C,D,N,O,E,F,G⟩:=nV c;rw[g]at l;cases l;simp only[bB]at d b;subst d b;have H:(i.bytes:Int)*n<=281474976710656:=by
    have Q:(i.bytes:Int)*n<=32*n:=Int.mul_le_mul_of_nonneg_right om f;omega
   have a:=run_make (P:=ah) w t e i zv A g C k k n n f (Int.le_refl _) H om;obtain⟨I,m,o,q⟩:=lr s e (bV n.toNat z) (bV n.toNat zv) (jG (G _ _) _) (fun y b=>by rw[jo b];exact F)
   rw[vH]at m o q;obtain⟨J,L⟩:=dX.reg m (Y:=⟨e,bS e,n.toNat,fun _=>z⟩) rfl rfl rfl (fun j r=>by simp only at r;simp[cK,r])
   rw[D,<-E,mn zv n.toNat]at a;refine⟨_,_,_,_,v _ I,?_,J,by rw[L];exact o,a⟩
   simp only[bB];refine⟨n.toNat,_,e,(0,0),by rw[dB],af _,heap_alloc_new w _,?_⟩
   simp only[cb];rw[q];simp
 ·exact h.elim
def fI:TypeId->Nat->Option (Nat×Nat)
 | 24,0=>some (1,0)|24,1=>some (1,1)|24,2=>some (1,2)|24,3=>some (1,3)
 | 27,0=>some (1,0)|27,1=>some (1,4)|27,2=>some (1,5)
 | 107,0=>some (1,0)|107,1=>some (1,1)
 | 160,0=>some (1,0)|160,1=>some (1,1)|160,2=>some (1,2)|160,3=>some (1,3)
 | 167,0=>some (2,0)|167,1=>some (2,1)
 | 183,0=>some (1,0)|183,1=>some (1,1)
 | 197,0=>some (2,0)|197,1=>some (2,1)|197,2=>some (2,2)|197,3=>some (2,3)|197,4=>some (2,5)
 | 218,0=>some (1,0)|218,1=>some (1,1)
 | _,_=>ae
def Gg(P:Program)(t f:Nat):Option (Nat×Bool):=(P.underlying t).bind fun
 | .struct fs=>(fs[f]?).bind fun fl=>(P.info? fl.type).map fun i=>(fl.offset,i.size==0)
 | _=>ae
theorem Gf{t:Nat}(h:fI t f=some (es,k)):Gg ah t f=some (es*k,false):=by
 unfold fI at h;split at h<;>first
  | (cases h;kernel_rfl)
  | cases h
theorem Iz:Gg ah 50 0=some (0,false):=by kernel_rfl
theorem Iy:Gg ah 50 1=some (1,false):=by kernel_rfl
def rS(t:TypeId)(x:AV)(f:Nat)(K:AV->Prop):Prop:=match fI t f,x with
 | some (es',k),.ptr es b i=>es'=es/\K (.ptr es b (i+k))
 | ae,.ptr es b i=>(es=2/\t=50/\f<2)/\K (.fp b i f)
 | _,_=>False
theorem ta(h:rS t x f K){w:World}{M:Nat->Prop}{vx:Value}(g:bB w M x vx) :
  ∃z v,K z/\bB w M z v/\(Instr.fieldAt t vx f).run ah w=.ok v w:=by
 unfold rS at h;split at h
 ·rename_i es' k es b i o;obtain⟨rfl,j⟩:=h;simp only[bB]at g;subst g;have a:=Gf o;unfold Gg at a
  cases e:ah.underlying t with
  | none=>rw[e]at a;simp at a
  | some d =>
   rw[e]at a
   cases d<;>simp only[dM,reduceCtorEq]at a
   rename_i fs
   cases c:fs[f]? with
   | none=>rw[c]at a;simp at a
   | some fl =>
    rw[c]at a;simp only[dM,eC,Prod.mk.injEq,beq_eq_false_iff_ne]at a;obtain⟨ii,l,m,n⟩:=a;refine⟨_,.pointer (some ⟨b,es'*i+es'*k,ae⟩),j,by simp[bB,bU],?_⟩
    simp[Instr.fieldAt,run_underlying e,c,Instr.sureAddr,fieldPlace,cJ l,n,ia,m]
 ·rename_i es b i o;obtain⟨⟨rfl,rfl,p⟩,j⟩:=h;simp only[bB]at g;subst g;have a:Gg ah 50 f=some (f,false):=by
   have q:f=0∨f=1:=om
   rcases q with rfl|rfl
   ·exact Iz
   ·exact Iy
  unfold Gg at a
  cases e:ah.underlying 50 with
  | none=>rw[e]at a;simp at a
  | some d =>
   rw[e]at a
   cases d<;>simp only[dM,reduceCtorEq]at a
   rename_i fs
   cases c:fs[f]? with
   | none=>rw[c]at a;simp at a
   | some fl =>
    rw[c]at a;simp only[dM,eC,Prod.mk.injEq,beq_eq_false_iff_ne]at a;obtain⟨ii,l,m,n⟩:=a;refine⟨_,.pointer (some ⟨b,2*i+f,ae⟩),j,by simp[bB],?_⟩
    simp[Instr.fieldAt,run_underlying e,c,Instr.sureAddr,fieldPlace,cJ l,n,ia,m]
 ·exact h.elim

def zN(S:St):AV->Option (Nat×Nat×(Nat->AV)×Option Nat)
 | .sl es b off len=>(S b).bind fun X=>if X.es=es/\off+len<=X.n then some (es,len,fun j=>X.g (off+j),some b)else ae
 | .lst es n g=>some (es,n,g,ae)
 | _=>ae
theorem uD(g:Nat->AV)(o:Nat):∀k i,dD (fun j=>g (o+j)) i k=dD g (o+i) k
 | 0,_=>rfl
 | k+1,i=>by simp only[dD];rw[uD g o k (i+1)];rfl
theorem jL(g:Nat->AV):∀k i,(dD g i k).length=k
 | 0,_=>rfl
 | k+1,i=>by simp[dD,jL g k]
theorem ru(g:Nat->AV):∀k i j,j<k->(dD g i k).getD j .any=g (i+j)
 | 0,_,_,h=>om
 | k+1,i,0,_=>by simp[dD]
 | k+1,i,j+1,h=>by
  have:=ru g k (i+1) j om;simp only[dD,List.getD_cons_succ];rw[this];congr 1;omega
theorem nZ(g:Nat->AV):∀k i z,z∈dD g i k->∃j,j<k/\z=g (i+j)
 | 0,_,_,h=>by simp[dD]at h
 | k+1,i,z,h=>by
  simp only[dD,List.mem_cons]at h;rcases h with rfl|h
  ·exact⟨0,om,rfl⟩
  ·obtain⟨j,b,a⟩:=nZ g k (i+1) z h;exact⟨j+1,om,by rw[a];congr 1;omega⟩
theorem uK{w:World}{M:Nat->Prop}{b off es:Nat}{g:Nat->AV}{n:Nat}(c:∀j,j<n->∃u,tO w b (off+es*j) es u/\bB w M (g j) u) :
  ∀(k i:Nat),i+k<=n->∃vs:List Value,a6 w M (dD g i k) vs/\(vs.flatMap (fun u=>u.cells.toList)).length=es*k/\∀j,j<es*k->w.cell? ⟨b,off+es*i+j,ae⟩=(vs.flatMap (fun u=>u.cells.toList))[j]?
 | 0,i,_=>⟨[],by simp[dD,a6],sm,fun j c=>by simp at c⟩
 | k+1,i,q=>by
  obtain⟨u,⟨cs,ty,fr,h,d⟩,l⟩:=c i om;obtain⟨vs,f,m,o⟩:=uK c k (i+1) om;have a:u.cells.toList.length=es/\∀j,j<es->w.cell? ⟨b,off+es*i+j,ae⟩=u.cells.toList[j]?:=by
   match es,d with
   | 1,d =>
    simp only[reads]at d;rw[qJ d.2];exact⟨rfl,fun j c=>by
     obtain rfl:j=0:=om
     rw[nh h];simpa using d.1⟩
   | 2,d =>
    simp only[reads]at d;obtain⟨x,y,rfl,_,_,p,f⟩:=d;refine⟨rfl,fun j c=>?_⟩;rw[nh h]
    match j with
    | 0=>simpa [Value.cells]using p
    | 1=>simpa [Value.cells]using f
    | j+2=>omega
  refine⟨u::vs,by simp only[dD,a6];exact⟨l,f⟩,by simp only[eu,List.length_append,a.1,m];rw[eD];omega,fun j c=>?_⟩
  simp only[eu];by_cases e:j<es
  ·rw[gN (by rw[a.1];exact e)];exact a.2 j e
  ·rw[gE (by rw[a.1];omega),a.1,<-o (j-es) (by rw[eD]at c;omega)]
   congr 2;rw[eD];omega
theorem zM(r:dX w S){x:AV}{v:Value}(e:bB w S.dom x v){es m:Nat}{h:Nat->AV}{o:Option Nat}(a:zN S x=some (es,m,h,o))(s:0<m) :
  ∃b off c vs,v=.slice (some ⟨b,off,ae⟩) m c/\a6 w S.dom (dD h 0 m) vs/\(vs.flatMap (fun u=>u.cells.toList)).length=es*m/\∀j,j<es*m->w.cell? ⟨b,off+j,ae⟩=(vs.flatMap (fun u=>u.cells.toList))[j]?:=by
 cases x with
 | sl es' b off len =>
  simp only[zN]at a
  cases k:S b with
  | none=>rw[k]at a;simp at a
  | some X =>
   rw[k]at a;simp only[dM]at a;split at a
   ·rename_i l;simp only[eL.injEq,Prod.mk.injEq]at a;obtain⟨rfl,rfl,rfl,_⟩:=a;simp only[bB]at e;obtain⟨cap,cs',ty',fr',rfl,_,_,_⟩:=e;obtain⟨cs,p,t,d,_⟩:=r b X k;obtain⟨vs,q,f,i⟩:=mN d len off l.2;rw[l.1]at f i;refine⟨b,es'*off,cap,vs,rfl,by rw[uD,cn];exact q,f,fun j d=>?_⟩
    rw[nh p];exact i j d
   ·cases a
 | lst es' n g =>
  simp only[zN,eL.injEq,Prod.mk.injEq]at a;obtain⟨rfl,rfl,rfl,_⟩:=a;simp only[bB]at e;obtain⟨A,c,rfl,l,p⟩:=e;obtain⟨b,off,rfl,_,_,d⟩:=p s;obtain⟨vs,q,f,i⟩:=uK d n 0 om;exact⟨b,off,c,vs,rfl,q,f,fun j d=>by have:=i j d;simpa using this⟩
 | _=>simp[zN]at a
def oB(g:Nat->AV)(len m:Nat)(h:Nat->AV):Nat->AV:=if m=1 then aL g len (h 0)else fun j=>if j<len then g j else h (j-len)
theorem Bs(a:j<len):oB g len m h j=g j:=by
 unfold oB;split
 ·simp only[aL];rw[if_neg om]
 ·simp only;rw[if_pos a]
theorem vX(a:len<=j)(b:j<len+m):oB g len m h j=h (j-len):=by
 unfold oB;split
 ·simp only[aL];rw[if_pos om];congr 1;omega
 ·simp only;rw[if_neg om]
def St.del(S:St)(b:Nat):St:=fun k=>if k=b then ae else S k
def fZ(t t':TypeId)(s x:AV)(S:St)(K:AV->St->Prop):Prop:=match dw t with
 | some e=>t=t'/\(fD e).isSome=true/\(match zN S x with
  | some (es,m,h,o)=>es=bS e/\0<m/\(∀j,j<m->dN es (h j))/\(match s with
   | .nil=>m<=1048576/\∀b,S b=ae->K (.sl es b 0 m) (S.upd b ⟨e,es,m,h⟩)
   | .sl es' b off len=>(match S b with
    | some X=>es'=es/\off=0/\X.ty=e/\X.es=es/\X.n=len/\len+m<=1048576/\o≠some b /\
     ∀b',(b'=b∨S b'=ae)->K (.sl es b' 0 (len+m)) ((S.del b).upd b' ⟨e,es,len+m,oB X.g len m h⟩)
    | ae=>False)
   | _=>False)
  | ae=>False)
 | ae=>False
theorem nB(h:dN es x)(d:bB w M x z)(n k:Nat)(y:Value)(b:(Builtin.zeroCells z.cells n)[k]? = some y):li y:=by
 obtain⟨g,e,_⟩:=qE h d;simp only[Builtin.zeroCells,Array.getElem?_map,eC]at b;obtain⟨i,c,rfl⟩:=b;by_cases f:z.cells.size=0
 ·rw[f]at c;simp at c
 ·have a:i%z.cells.size<z.cells.size:=Nat.mod_lt _ om;rw[getElem!_pos z.cells _ a];exact(e _ sm).2
theorem cG.drew(M:Nat->Prop)(w:World):cG M M w w.drew:=⟨rfl,rfl,rfl,af _,fun _ _ _=>rfl,fun _ cs _ _ h=>⟨cs,h,rfl⟩,fun _ _ h=>h⟩
theorem dX.drew(h:dX w S):dX w.drew S:=fun b X a=>by
 obtain⟨cs,c,d,e,f⟩:=h b X a;exact⟨cs,c,d,fun j g=>by obtain⟨u,i,k⟩:=e j g;exact⟨u,i,bB.grow h.noU (cG.drew _ w) _ _ k⟩,f⟩
theorem dX.less(h:dX w S)(a:∀b X,S' b=some X->S b=some X):dX w S'/\∀k,S'.dom k->S.dom k:=by
 have c:∀k,S'.dom k->S.dom k:=fun k d=>by
  simp only[St.dom]at d ⊢
  cases e:S' k with
  | none=>exact absurd e d
  | some X=>rw[a k X e];simp
 have f:cG S.dom S'.dom w w:=(cG.refl S.dom w).weaken c;refine⟨fun b X g=>?_,c⟩;obtain⟨cs,i,l,m,n⟩:=h b X (a b X g);exact⟨cs,i,l,fun j o=>by obtain⟨u,p,q⟩:=m j o;exact⟨u,p,bB.grow h.noU f _ _ q⟩,n⟩
theorem CN(S:St)(b:Nat):∀k X,S.del b k=some X->S k=some X:=by
 intro k X h;simp only[St.del]at h;split at h
 ·cases h
 ·exact h

end Go.Proofs.YtdobfmlmenaajaaGreatDoor
