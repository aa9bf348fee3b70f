/-
  Lemmas for NeighbourRaw.
-/
import Derived.Test.YtdobfmlmenaajaaGreatDoorH04
namespace Go.Proofs.YtdobfmlmenaajaaGreatDoor
open Go.RowKit Tryz
open _root_.Classical renaming choose→dq
open _root_.List renaming replicate→bU,getD→cT
open _root_.Option renaming none→ab
open Tryz renaming prog→ah
open Value renaming int→dA
set_option maxHeartbeats 6400000
set_option maxRecDepth 4096
set_option linter.all false
variable{a:Act}{ad:Addr}{cs':Array Value}{op:BinOp}{N b es f k:Nat}{M M' M'':Nat->Prop}{fr:Nat×Nat}{o:Obj}{d:TypeDesc}{t ty:TypeId}{i:TypeInfo}{u v z:Value}{w w':World}
inductive AV where
 | int (k:IntKind) (n:Int)
 | bool (b:Bool)
 | big (z:Int)
 | nil
 | sl (es b off len:Nat)
 | ptr (es b i:Nat)
 | lst (es n:Nat) (g:Nat->AV)
 | pat (es:Nat) (x:AV)
 | tup (l:List AV)
 | agg (l:List AV)
 | fn (f:Nat) (l:List AV)
 | mag (n:Nat)
 | fp (b i f:Nat)
 | bset (p:Bool->Prop)
 | any
 | nfn
 | mfn (f:Nat) (l:List AV)
variable{x y:AV}{K:AV->Prop}{args:List AV}
structure eS where
 ty:TypeId
 es:Nat
 n:Nat
 g:Nat->AV
variable{X:eS}
abbrev St:=Nat->Option eS
variable{post post':AV->St->Prop}{S:St}
def St.dom(S:St)(b:Nat):Prop:=S b≠none
def St.none:St:=fun _=>ab
def St.upd(S:St)(b:Nat)(x:eS):St:=fun k=>if k=b then some x else S k
def one:Value->Prop
 | .agg _=>False
 | .tuple _=>False
 | _=>True
def lU:Value->Prop
 | .int .u32 _=>False
 | _=>True
def reads(cs:Array Value)(off:Nat):Nat->Value->Prop
 | 1,u=>cs[off]? = some u/\one u
 | 2,u=>∃x y,u=.agg #[x,y]/\one x/\one y/\cs[off]? = some x/\cs[off+1]? = some y
 | _,_=>False
def vU(w:World)(b off es:Nat)(u:Value):Prop:=∃cs ty fr,w.heap[b]? = some (.cells cs ty fr)/\reads cs off es u
mutual
def bs(w:World)(M:Nat->Prop):AV->Value->Prop
 | .int k n,v=>v=.int k n
 | .bool b,v=>v=.bool b
 | .big z,v=>eJ w w.heap.size v z
 | .nil,v=>v=.slice none 0 0
 | .sl es b off len,v=>∃cap cs ty fr,v=.slice (some ⟨b,es*off,none⟩) len cap/\len<=cap/\w.heap[b]? = some (.cells cs ty fr)/\es*(off+cap)<=cs.size
 | .ptr es b i,v=>v=.pointer (some ⟨b,es*i,none⟩)
 | .lst es n g,v=>∃A c,v=.slice A n c/\n<=c/\(0<n->∃b off,A=some ⟨b,off,none⟩/\b<w.heap.size/\¬M b/\∀j,j<n->∃u,vU w b (off+es*j) es u/\bs w M (g j) u)
 | .pat es x,v=>∃b off u,v=.pointer (some ⟨b,off,none⟩)/\b<w.heap.size/\¬M b/\vU w b off es u/\bs w M x u
 | .tup l,v=>∃vs:List Value,v=.tuple vs.toArray/\aT w M l vs
 | .agg l,v=>∃vs:List Value,v=.agg (vs.flatMap (fun u=>u.cells.toList)).toArray/\aT w M l vs
 | .fn f l,v=>∃vs:List Value,v=.func (.func f) #[] vs.toArray/\aT w M l vs
 | .mag n,v=>eJ w w.heap.size (.agg #[.bool false,v]) (n:Int)
 | .fp b i f,v=>v=.pointer (some ⟨b,2*i+f,none⟩)
 | .bset p,v=>∃s,v=.bool s/\p s
 | .any,_=>True
 | .nfn,v=>v=.nilFunc
 | .mfn f l,v=>∃vs:List Value,v=.func (.func f) vs.toArray #[]/\aT w M l vs
def aT(w:World)(M:Nat->Prop):List AV->List Value->Prop
 | [],[]=>True
 | a::l,v::vs=>bs w M a v/\aT w M l vs
 | [],_::_=>False
 | _::_,[]=>False
end
def BlkS(w:World)(S:St):Prop:=∀b x,S b=some x->∃cs,w.heap[b]? = some (.cells cs x.ty (0,0))/\x.es*x.n<=cs.size /\
 (∀j,j<x.n->∃u,reads cs (x.es*j) x.es u/\bs w S.dom (x.g j) u)/\∀(k:Nat) (y:Value),cs[k]? = some y->lU y
def wa:List Int:=[7,11,13,17,19,23,29,31]
def uZ(w:World):Prop:=∃cs ty,w.heap[0]? = some (.cells cs ty (0,0))/\∀r,r<8->cs[r]? = some (.int .i64 (wa.getD r 0))
structure eM(w:World)(S:St):Prop where
 z:S 0=none
 gl:uZ w
 blk:BlkS w S
instance (w:World) (S:St):CoeFun (eM w S) (fun _=>BlkS w S):=⟨eM.blk⟩
def NoU(M:Nat->Prop)(w:World):Prop:=∀b,M b->∀cs ty fr,w.heap[b]? = some (.cells cs ty fr)->∀(k:Nat) (y:Value),cs[k]? = some y->lU y
def eM.noU(h:eM w S):NoU S.dom w:=by
 intro b a cs ty fr c k y d;unfold St.dom at a
 cases e:S b with
 | none=>exact absurd e a
 | some x =>
  obtain⟨cs',f,_,_,g⟩:=h b x e;rw[f]at c
  cases c
  exact g k y d
structure dz(M M':Nat->Prop)(w w':World):Prop where
 os:w'.os=w.os
 tape:w'.tape=w.tape
 output:w'.output=w.output
 size:w.heap.size<=w'.heap.size
 keep:∀k,k<w.heap.size->¬M k->w'.heap[k]? = w.heap[k]?
 shape:∀(k:Nat) (cs:Array Value) (ty:TypeId) (fr:Nat×Nat),w.heap[k]? = some (Obj.cells cs ty fr)->∃cs':Array Value,w'.heap[k]? = some (Obj.cells cs' ty fr)/\cs'.size=cs.size
 own:∀k,k<w.heap.size->M' k->M k
def dz.refl(M:Nat->Prop)(w:World):dz M M w w:=⟨rfl,rfl,rfl,ae _,fun _ _ _=>rfl,fun _ cs _ _ h=>⟨cs,h,rfl⟩,fun _ _ h=>h⟩
def dz.trans{a b c:World}(h:dz M M' a b)(k:dz M' M'' b c):dz M M'' a c :=
 ⟨k.os.trans h.os,k.tape.trans h.tape,k.output.trans h.output,bQ h.size k.size,
   fun i d e=>(k.keep i (dF d h.size) (fun f=>e (h.own i d f))).trans (h.keep i d e),
   fun i cs ty fr l=>by
    obtain⟨g,m,n⟩:=h.shape i cs ty fr l;obtain⟨j,o,p⟩:=k.shape i g ty fr m;exact⟨j,o,p.trans n⟩,
   fun i d e=>h.own i d (k.own i (dF d h.size) e)⟩
def dz.weaken{a b:World}(h:dz M M' a b)(c:∀k,M'' k->M' k):dz M M'' a b :=
 ⟨h.os,h.tape,h.output,h.size,h.keep,h.shape,fun k d e=>h.own k d (c k e)⟩
def uZ.grow(h:uZ w)(d:dz M M' w w')(e:¬M 0):uZ w':=by
 obtain⟨cs,ty,b,f⟩:=h;have a:0<w.heap.size:=by
  rcases aC 0 w.heap.size with a|c
  .exact a
  .rw[eC c]at b;cases b
 exact⟨cs,ty,(d.keep 0 a e).trans b,f⟩
def eM.n0(h:eM w S):¬S.dom 0:=fun k=>k h.z
def eM.grow(h:eM w S)(a:dz S.dom M' w w'):uZ w':=h.gl.grow a h.n0
def uZ.pos(h:uZ w):0<w.heap.size:=by
 obtain⟨cs,ty,c,d⟩:=h;rcases aC 0 w.heap.size with a|b
 .exact a
 .rw[eC b]at c;cases c
def St.upd0(h:S 0=ab)(a:b≠0):S.upd b X 0=ab:=by
 unfold St.upd;rw[af (fun e=>a e.symm)];exact h
def gA(h:w.heap[b]? = some o):b<w.heap.size:=by
 rcases aC b w.heap.size with a|c
 .exact a
 .rw[eC c]at h;cases h
def Ay(h:w.cell? ad=some v):∃cs ty fr,w.heap[ad.block]? = some (.cells cs ty fr)/\∃k:Nat,cs[k]? = some v:=by
 unfold World.cell? at h;split at h
 .rename_i cs ty fr a;split at h
  .cases h
  .exact⟨cs,ty,fr,a,_,h⟩
 .cases h
def eJ.grow(l:NoU M w)(f:dz M M' w w'){v:Value}{z:Int}(h:eJ w w.heap.size v z):eJ w' w'.heap.size v z:=by
 obtain⟨neg,A,n,c,xs,m,o,b,p,q⟩:=h;refine⟨neg,A,n,c,xs,m,o,⟨b.1,b.2.1,fun r=>?_⟩,p,q⟩;obtain⟨ad,e,g,s⟩:=b.2.2 r;refine⟨ad,e,dF g f.size,fun j t=>?_⟩;have a:=s j t;have d:¬M ad.block:=by
  intro d;obtain⟨cs,ty,fr,i,k,u⟩:=Ay a;rw[nH]at i;exact l _ d cs ty fr i k _ u
 rw[<-a];exact BE (w:=w) (by rw[nH];exact f.keep _ g d)
def vU.grow(a:dz M M' w w'){b off es:Nat}{u:Value}(c:b<w.heap.size)(d:¬M b)(h:vU w b off es u):vU w' b off es u:=by
 obtain⟨cs,ty,fr,e,f⟩:=h;exact⟨cs,ty,fr,(a.keep b c d).trans e,f⟩
mutual
theorem bs.grow{M M':Nat->Prop}{w w':World}(q:NoU M w)(d:dz M M' w w'):∀(a:AV) (v:Value),bs w M a v->bs w' M' a v
 | .int k n,v,h=>by simpa [bs]using h
 | .bool b,v,h=>by simpa [bs]using h
 | .big z,v,h=>by simp only[bs]at h ⊢;exact h.grow q d
 | .nil,v,h=>by simpa [bs]using h
 | .sl es b off len,v,h=>by
  simp only[bs]at h ⊢;obtain⟨cap,cs,ty,fr,m,o,y,E⟩:=h;obtain⟨cs',F,G⟩:=d.shape b cs ty fr y;exact⟨cap,cs',ty,fr,m,o,F,by rw[G];exact E⟩
 | .ptr es b i,v,h=>by simpa [bs]using h
 | .lst es n g,v,h=>by
  simp only[bs]at h ⊢;obtain⟨A,c,m,o,y⟩:=h;refine⟨A,c,m,o,fun H=>?_⟩;obtain⟨b,off,e,r,t,I⟩:=y H;refine⟨b,off,e,dF r d.size,fun s=>t (d.own b r s),fun j B=>?_⟩;obtain⟨u,C,D⟩:=I j B;exact⟨u,C.grow d r t,bs.grow q d (g j) u D⟩
 | .pat es x,v,h=>by
  simp only[bs]at h ⊢;obtain⟨b,off,u,m,r,t,C,J⟩:=h;exact⟨b,off,u,m,dF r d.size,fun s=>t (d.own b r s),C.grow d r t,bs.grow q d x u J⟩
 | .tup l,v,h=>by
  simp only[bs]at h ⊢;obtain⟨vs,m,o⟩:=h;exact⟨vs,m,aT.grow q d l vs o⟩
 | .agg l,v,h=>by
  simp only[bs]at h ⊢;obtain⟨vs,m,o⟩:=h;exact⟨vs,m,aT.grow q d l vs o⟩
 | .fn f l,v,h=>by
  simp only[bs]at h ⊢;obtain⟨vs,m,o⟩:=h;exact⟨vs,m,aT.grow q d l vs o⟩
 | .mag n,v,h=>by simp only[bs]at h ⊢;exact h.grow q d
 | .fp b i f,v,h=>by simpa [bs]using h
 | .bset p,v,h=>by simpa [bs]using h
 | .any,v,h=>by simp[bs]
 | .nfn,v,h=>by simpa [bs]using h
 | .mfn f l,v,h=>by
  simp only[bs]at h ⊢;obtain⟨vs,m,o⟩:=h;exact⟨vs,m,aT.grow q d l vs o⟩
theorem aT.grow{M M':Nat->Prop}{w w':World}(b:NoU M w)(c:dz M M' w w'):∀(l:List AV) (vs:List Value),aT w M l vs->aT w' M' l vs
 | [],[],_=>by simp[aT]
 | a::l,v::vs,h=>by
  simp only[aT]at h ⊢;exact⟨bs.grow b c a v h.1,aT.grow b c l vs h.2⟩
 | [],_::_,h=>by simp[aT]at h
 | _::_,[],h=>by simp[aT]at h
end
def cP(f:Nat)(args:List AV)(S:St)(post:AV->St->Prop):Prop :=
 ∀(w:World) (vs:List Value),eM w S->aT w S.dom args vs->Calls ah f vs.toArray w (fun e w' =>
  ∃v r S',e=.returned v/\post r S'/\bs w' S'.dom r v/\eM w' S'/\dz S.dom S'.dom w w')
def cP.mono(h:cP f args S post)(a:∀r S',post r S'->post' r S'):cP f args S post' :=
 fun w vs b c=>(h w vs b c).mono fun _ _ ⟨v,r,S',d,e,g⟩=>⟨v,r,S',d,a r S' e,g⟩

abbrev Tm:=Nat->AV
variable{O:Tm}
def Tm.put_ex:∃p:Tm->Option Nat->AV->Tm,∀O d x,p O d x=(match d with
 | some d=>fun t=>if t=d then x else O t
 | ab=>O):=⟨_,fun _ _ _=>rfl⟩
noncomputable def Tm.put:Tm->Option Nat->AV->Tm:=dq Tm.put_ex
def Tm.put_eq(O:Tm)(d:Option Nat)(x:AV):O.put d x=(match d with
 | some d=>fun t=>if t=d then x else O t
 | ab=>O):=de Tm.put_ex O d x
def Rt:Value->AV
 | .int k n=>.int k n
 | .bool b=>.bool b
 | .slice ab 0 0=>.nil
 | _=>.any
def ev(O:Tm):Operand->AV
 | .tmp t=>O t
 | .const v=>Rt v
 | .global g=>.ptr 1 g 0
 | .func f=>.fn f []
def PD(w:World)(M:Nat->Prop)(v:Value):bs w M (Rt v) v:=by
 unfold Rt;split<;>simp[bs]
structure RT(O:Tm)(S:St)(N:Nat)(a:Act)(w:World):Prop where
 defers:a.defers=[]
 size:a.tmps.size=N
 tm:∀t,bs w S.dom (O t) (a.tmps.getD t undef)
 st:eM w S
def RT.ev(h:RT O S N a w)(x:Operand):bs w S.dom (ev O x) (a.eval x):=by
 cases x with
 | tmp t=>exact h.tm t
 | const v=>exact PD _ _ v
 | global g=>simp only[Go.Proofs.YtdobfmlmenaajaaGreatDoor.ev,bs,dS];rfl
 | func f=>simp only[Go.Proofs.YtdobfmlmenaajaaGreatDoor.ev,bs];exact⟨[],rfl,by simp[aT]⟩
def RT.put{S':St}(h:RT O S N a w)(g:dz S.dom S'.dom w w')(f:eM w' S'){d:Option Nat}(i:∀k,d=some k->k<N){x:AV}{v:Value}(j:bs w' S'.dom x v) :
  RT (O.put d x) S' N (a.put d v) w':=by
 have b:∀t,bs w' S'.dom (O t) (a.tmps.getD t undef):=fun t=>bs.grow h.st.noU g _ _ (h.tm t)
 cases d with
 | none=>rw[Tm.put_eq];exact⟨h.defers,h.size,b,f⟩
 | some d =>
  refine⟨h.defers,by simp[Act.put,h.size],fun t=>?_,f⟩
  have c:=i d rfl;simp only[Tm.put_eq,Act.put];by_cases e:t=d
  .subst e;have:(a.tmps.setIfInBounds t v).getD t undef=v:=by
    simp[Array.getD,h.size,c]
   rw[ai rfl,this];exact j
  .have:(a.tmps.setIfInBounds d v).getD t undef=a.tmps.getD t undef:=by
    simp only[cO];rw[dR (aj e)]
   rw[af e,this];exact b t
def Gk(op:BinOp)(t:TypeId)(x y:AV)(K:AV->Prop):Prop:=match x,y with
 | .int k a,.int k' b=>k=k'/\(match op with
  | .add=>K (.int k (k.wrap (a+b)))
  | .sub=>K (.int k (k.wrap (a-b)))
  | .mul=>K (.int k (k.wrap (a*b)))
  | .quo=>b≠0/\K (.int k (k.wrap (a.tdiv b)))
  | .rem=>b≠0/\K (.int k (a.tmod b))
  | .eql=>K (.bool (a==b))
  | .neq=>K (.bool (a != b))
  | .lss=>K (.bool (decide (a<b)))
  | .leq=>K (.bool (decide (a<=b)))
  | .gtr=>K (.bool (decide (b<a)))
  | .geq=>K (.bool (decide (b<=a)))
  | _=>False)
 | .bool a,.bool b=>t=4/\(match op with
  | .eql=>K (.bool (a==b))
  | .neq=>K (.bool (a != b))
  | _=>False)
 | .bset p,.bset q=>t=4/\op=.neq/\K (.bset (fun s=>∃a b,p a/\q b/\s=(a != b)))
 | .sl _ _ _ _,.nil=>(t=29/\op=.eql)/\K (.bool false)
 | .lst _ n _,.nil=>(t=29/\op=.eql/\0<n)/\K (.bool false)
 | .nil,.nil=>(t=29/\op=.eql)/\K (.bool true)
 | _,_=>False
def AL(h:Gk op ty x y K){w:World}{M:Nat->Prop}{vx vy:Value}(d:bs w M x vx)(e:bs w M y vy)(ox oy:Operand) :
  ∃z v,K z/\bs w M z v/\(do eqGuard op ty ox oy vx vy;binOp op ty vx vy:Sem Value).run ah w=.ok v w:=by
 have f:∀(w:World) (a:Option Addr) (n c n' c':Nat),(binOp .eql 29 (.slice a n c) (.slice none n' c')).run ah w=.ok (.bool a.isNone) w:=fun w a n c n' c'=>AY w _ _ a n c n' c' underlying29;unfold Gk at h;split at h
 .rename_i k a k' b;obtain⟨rfl,h⟩:=h;simp only[bs]at d e;subst d e;split at h
  .exact⟨_,.int k (k.wrap (a+b)),h,by simp[bs],by simp[eqGuard,binOp,Op.intArith]⟩
  .exact⟨_,.int k (k.wrap (a-b)),h,by simp[bs],by simp[eqGuard,binOp,Op.intArith]⟩
  .exact⟨_,.int k (k.wrap (a*b)),h,by simp[bs],by simp[eqGuard,binOp,Op.intArith]⟩
  .exact⟨_,.int k (k.wrap (a.tdiv b)),h.2,by simp[bs],by simp[eqGuard,binOp,Op.intDiv,h.1]⟩
  .exact⟨_,.int k (a.tmod b),h.2,by simp[bs],by simp[eqGuard,binOp,Op.intDiv,h.1]⟩
  .exact⟨_,.bool (a==b),h,by simp[bs],by simp[eqGuard,binOp,Op.intCmp]⟩
  .exact⟨_,.bool (a != b),h,by simp[bs],by simp[eqGuard,binOp,Op.intCmp]⟩
  .exact⟨_,.bool (decide (a<b)),h,by simp[bs],by simp[eqGuard,binOp,Op.intCmp]⟩
  .exact⟨_,.bool (decide (a<=b)),h,by simp[bs],by simp[eqGuard,binOp,Op.intCmp]⟩
  .exact⟨_,.bool (decide (b<a)),h,by simp[bs],by simp[eqGuard,binOp,Op.intCmp]⟩
  .exact⟨_,.bool (decide (b<=a)),h,by simp[bs],by simp[eqGuard,binOp,Op.intCmp]⟩
  .exact h.elim
 .rename_i a b;obtain⟨rfl,h⟩:=h;simp only[bs]at d e;subst d e;have i:(underlying 4).run ah w=.ok .bool w:=by
   simp[underlying,CM]
  have g:(Op.equal 4 (.bool a) (.bool b)).run ah w=.ok (a==b) w:=by
   unfold Op.equal Op.maxDepth;rw[Op.equalIn];simp[i]
  split at h
  .exact⟨_,.bool (a==b),h,by simp[bs],by simp[eqGuard,binOp,g]⟩
  .exact⟨_,.bool (a != b),h,by simp[bs],by simp[eqGuard,binOp,g];cases a<;>cases b<;>rfl⟩
  .exact h.elim
 .rename_i p q;obtain⟨rfl,rfl,h⟩:=h;simp only[bs]at d e;obtain⟨a,rfl,l⟩:=d;obtain⟨b,rfl,j⟩:=e;have i:(underlying 4).run ah w=.ok .bool w:=by
   simp[underlying,CM]
  have g:(Op.equal 4 (.bool a) (.bool b)).run ah w=.ok (a==b) w:=by
   unfold Op.equal Op.maxDepth;rw[Op.equalIn];simp[i]
  exact⟨_,.bool (a != b),h,by simp only[bs];exact⟨_,rfl,a,b,l,j,rfl⟩,by simp[eqGuard,binOp,g];cases a<;>cases b<;>rfl⟩
 .obtain⟨⟨rfl,rfl⟩,h⟩:=h;simp only[bs]at d e;obtain⟨cap,cs,ty,fr,rfl,_⟩:=d;subst e;exact⟨_,.bool false,h,by simp[bs],by simp[eqGuard,f]⟩
 .obtain⟨⟨rfl,rfl,m⟩,h⟩:=h;simp only[bs]at d e;obtain⟨A,c,rfl,_,j⟩:=d;obtain⟨b,off,rfl,_⟩:=j m;subst e;exact⟨_,.bool false,h,by simp[bs],by simp[eqGuard,f]⟩
 .obtain⟨⟨rfl,rfl⟩,h⟩:=h;simp only[bs]at d e;subst d e;exact⟨_,.bool true,h,by simp[bs],by simp[eqGuard,f]⟩
 .exact h.elim

def eY:TypeId->Option (Nat×Nat)
 | 2=>some (1,1)|3=>some (1,1)|4=>some (1,1)|5=>some (1,1)|22=>some (1,1)|25=>some (1,1)|28=>some (1,1)|29=>some (1,1)
 | 34=>some (1,1)|41=>some (1,1)|48=>some (1,1)|52=>some (1,1)|59=>some (1,1)|97=>some (1,1)|146=>some (1,1)|158=>some (1,1)|192=>some (1,1)|216=>some (1,1)
 | 50=>some (2,1)|167=>some (2,2)|195=>some (2,2)|197=>some (2,7)
 | 24=>some (1,4)|27=>some (1,6)|107=>some (1,2)|160=>some (1,4)|183=>some (1,2)|202=>some (1,2)|238=>some (1,3)|239=>some (1,8)|218=>some (1,2)
 | _=>ab
def LE:TypeDesc->Bool
 | .struct _=>true
 | .array _ _=>true
 | _=>false
def Mv(P:Program)(t es k:Nat):Bool:=match P.info? t,P.underlying t with
 | some i,some d=>i.size==es*k&&(if LE d then es*k != 1 else es==1&&k==1)
 | _,_=>false
def rO{t:Nat}(h:eY t=some (es,k)):Mv ah t es k=true/\(es=1∨es=2)/\0<k:=by
 unfold eY at h;split at h<;>first
  | (cases h;refine⟨by kernel_rfl,om,om⟩)
  | cases h
def zr{t:Nat}(h:Mv ah t es k=true):∃i d,ah.info? t=some i/\i.size=es*k/\ah.underlying t=some d/\((LE d=true/\es*k≠1)∨(LE d=false/\es=1/\k=1)):=by
 unfold Mv at h;split at h
 .rename_i i d c e;simp only[au,vu]at h;refine⟨i,d,c,h.1,e,?_⟩;have a:=h.2;split at a
  .rename_i b;exact bF ⟨b,by simpa using a⟩
  .rename_i b;simp at a;exact bH ⟨by simpa using b,a.1,a.2⟩
 .cases h
def eA(g:Nat->AV)(i:Nat):Nat->List AV
 | 0=>[]
 | k+1=>g i::eA g (i+1) k
def rR(h:one u):u.cells=#[u]:=by cases u<;>first|rfl|exact h.elim
def oD{off:Nat}{cs:Array Value}(h:w.heap[b]? = some (.cells cs ty fr)):w.cell? ⟨b,off,ab⟩=cs[off]?:=by
 simp[World.cell?,h]
def iP(b off k:Nat):(⟨b,off,ab⟩:Addr).add k=⟨b,off+k,ab⟩:=by
 unfold Addr.add;split<;>simp_all
theorem sk{w:World}{b:Nat}{cs:Array Value}{ty:TypeId}{fr:Nat×Nat}(h:w.heap[b]? = some (.cells cs ty fr))(off:Nat)(P:Program) :
  ∀(l:List Value) (i:Nat) (acc:Array Value),(∀j,j<l.length->cs[off+i+j]? = l[j]?)->(loadCellsFrom ⟨b,off,ab⟩ i l.length acc).run P w=.ok (acc++l.toArray) w
 | [],i,acc,_=>by simp[loadCellsFrom]
 | v::l,i,acc,a=>by
  have c:=a 0 sm
  simp only[cF,c8]at c;have ih:=sk h off P l (i+1) (acc.push v) (fun j d=>by
   have:=a (j+1) (by simp;omega)
   rw[ci]at this;rw[<-this];congr 1;omega)
  simp only[cq,loadCellsFrom];simp only[load,iP];simp[Sem.run,bind,Sem.bind,oD h,c];simpa using ih
def Ch(a:ah.underlying t=some d)(w:World):(isAgg t).run ah w=.ok (LE d) w:=by
 simp only[isAgg,jZ,bL a,ip]
 cases d<;>rfl
def c9(a:ah.info? t=some i)(w:World):(sizeOf t).run ah w=.ok i.size w:=by
 simp[sizeOf,typeInfo,a]
def q8{off t:Nat}{cs:Array Value}(h:w.heap[b]? = some (.cells cs ty fr))(e:eY t=some (es,k))(f:es*k≠1)
  (l:List Value) (g:l.length=es*k) (m:∀j,j<l.length->cs[off+j]? = l[j]?) :
  (Instr.loadAt t (.pointer (some ⟨b,off,ab⟩))).run ah w=.ok (.agg l.toArray) w:=by
 obtain⟨c,u,_⟩:=rO e;obtain⟨i,d,n,o,p,a⟩:=zr c;have q:LE d=true:=a.elim (fun a=>a.1) (fun a=>by rw[a.2.1,a.2.2]at f;omega)
 have r:=sk h off ah l 0 #[] (fun j s=>by rw[cF];exact m j s)
 simp only[Instr.loadAt,Instr.sureAddr,pure_bind,loadVar,jZ,Ch p,q,ip,aQ,c9 n,loadCells];rw[o,<-g,r];simp
def rP{off t:Nat}{cs:Array Value}(h:w.heap[b]? = some (.cells cs ty fr))(e:eY t=some (es,1))(c:reads cs off es u) :
  (Instr.loadAt t (.pointer (some ⟨b,off,ab⟩))).run ah w=.ok u w:=by
 obtain⟨f,g,_⟩:=rO e;rcases g with rfl|rfl
 .obtain⟨i,d,r,s,k,a⟩:=zr f;have l:LE d=false:=a.elim (fun a=>absurd rfl a.2) (fun a=>a.1);simp only[reads]at c;simp only[Instr.loadAt,Instr.sureAddr,pure_bind,loadVar,jZ,Ch k,l,ip];simp[oD h,c.1]
 .simp only[reads]at c;obtain⟨x,y,rfl,m,n,o,p⟩:=c;exact q8 h e om [x,y] rfl (fun j q=>by
   match j with
   | 0=>simpa using o
   | 1=>simpa using p
   | j+2=>simp at q;omega)
theorem nQ{w:World}{M:Nat->Prop}{cs:Array Value}{es n:Nat}{g:Nat->AV}(b:∀j,j<n->∃u,reads cs (es*j) es u/\bs w M (g j) u) :
  ∀(k i:Nat),i+k<=n->∃vs:List Value,aT w M (eA g i k) vs/\(vs.flatMap (fun u=>u.cells.toList)).length=es*k/\∀j,j<es*k->cs[es*i+j]? = (vs.flatMap (fun u=>u.cells.toList))[j]?
 | 0,i,_=>⟨[],by simp[eA,aT],sm,fun j b=>by simp at b⟩
 | k+1,i,o=>by
  obtain⟨u,c,f⟩:=b i om;obtain⟨vs,e,h,l⟩:=nQ b k (i+1) om;have a:u.cells.toList.length=es/\∀j,j<es->cs[es*i+j]? = u.cells.toList[j]?:=by
   match es,c with
   | 1,c =>
    simp only[reads]at c;rw[rR c.2];exact⟨rfl,fun j b=>by
     obtain rfl:j=0:=om
     simpa using c.1⟩
   | 2,c =>
    simp only[reads]at c;obtain⟨x,y,rfl,_,_,m,e⟩:=c;refine⟨rfl,fun j b=>?_⟩
    match j with
    | 0=>simpa [Value.cells]using m
    | 1=>simpa [Value.cells]using e
    | j+2=>omega
  refine⟨u::vs,by simp only[eA,aT];exact⟨f,e⟩,by simp only[dD,CS,a.1,h];rw[eN];omega,fun j b=>?_⟩
  simp only[dD];by_cases d:j<es
  .rw[et (by rw[a.1];exact d)];exact a.2 j d
  .rw[ef (by rw[a.1];omega),a.1,<-l (j-es) (by rw[eN]at b;omega)]
   congr 1;rw[eN];omega
def pD(t:TypeId)(x:AV)(S:St)(K:AV->Prop):Prop:=match x with
 | .pat es y=>eY t=some (es,1)/\K y
 | .ptr es b i=>(match S b with
  | some X=>(match eY t with
   | some (es',k)=>es'=es/\X.es=es/\i+k<=X.n/\K (if k=1 then X.g i else .agg (eA X.g i k))
   | ab=>False)
  | ab=>t=239/\es=1/\b=0/\i=0/\K (.agg (wa.map fun z=>.int .i64 z)))
 | .fp b i f=>(match S b with
  | some X=>X.es=2/\i<X.n/\(match X.g i with
   | .big z=>if t=48/\f=1 then K (.mag z.natAbs)else if t=4/\f=0 then K (.bset (fun s=>sg s z.natAbs=z))else False
   | _=>False)
  | ab=>False)
 | _=>False
def rE(h:pD t x S K){w:World}(D:eM w S){vx:Value}(d:bs w S.dom x vx) :
  ∃z v,K z/\bs w S.dom z v/\(Instr.loadAt t vx).run ah w=.ok v w:=by
 cases x with
 | pat es y =>
  simp only[pD]at h;simp only[bs]at d;obtain⟨b,off,u,rfl,_,_,⟨cs,ty,fr,m,l⟩,o⟩:=d;exact⟨_,u,h.2,o,rP m h.1 l⟩
 | ptr es b i =>
  simp only[pD]at h
  cases q:S b with
  | none =>
   rw[q]at h;obtain⟨rfl,rfl,rfl,rfl,r⟩:=h;obtain⟨cs,ty,E,C⟩:=D.gl;simp only[bs]at d;subst d;refine⟨_,.agg (wa.map fun z=>dA .i64 z).toArray,r,?_,q8 E (show eY 239=some (1,8) by decide) dc (wa.map fun z=>dA .i64 z) rfl fun j a=>?_⟩
   .simp only[bs];exact⟨wa.map fun z=>dA .i64 z,rfl,by simp[wa,aT,bs]⟩
   .rw[dS,aD,C j a];rcases (show j=0∨j=1∨j=2∨j=3∨j=4∨j=5∨j=6∨j=7 by simp[wa]at a;omega)with rfl|rfl|rfl|rfl|rfl|rfl|rfl|rfl<;>rfl
  | some X =>
   rw[q]at h
   cases s:eY t with
   | none=>rw[s]at h;exact h.elim
   | some p =>
    obtain⟨es',k⟩:=p;rw[s]at h;obtain⟨rfl,rfl,O,r⟩:=h;simp only[bs]at d;subst d;obtain⟨cs,m,F,a,G⟩:=D b X q;by_cases B:k=1
    .subst B;obtain⟨u,l,o⟩:=a i om;rw[ai rfl]at r;exact⟨_,u,r,o,rP m s l⟩
    .obtain⟨vs,E,C,P⟩:=nQ a k i O;rw[af B]at r;have l:bs w S.dom (.agg (eA X.g i k)) (.agg (vs.flatMap (fun u=>u.cells.toList)).toArray):=by
      simp only[bs];exact⟨vs,rfl,E⟩
     refine⟨_,_,r,l,q8 m s ?_ _ C (fun j a=>P j (by rw[<-C];exact a))⟩
     obtain⟨_,H,Q⟩:=rO s;intro e;rcases H with M|M<;>rw[M]at e<;>omega
 | fp b i f =>
  simp only[pD]at h
  cases q:S b with
  | none=>rw[q]at h;exact h.elim
  | some X =>
   rw[q]at h;obtain⟨I,J,h⟩:=h;simp only[bs]at d;subst d;obtain⟨cs,m,F,a,G⟩:=D b X q;obtain⟨u,l,o⟩:=a i J;rw[I]at l
   cases R:X.g i<;>rw[R]at h o<;>try exact h.elim
   rename_i z;simp only[bs]at o;obtain⟨neg,A,n,c,xs,rfl,L,T,U,rfl⟩:=o;obtain⟨x,y,H,ox,oy,V,W⟩:=l
   cases H
   have N:(sg neg (aZ xs)).natAbs=aZ xs:=by cases neg<;>simp[sg]
   simp only at h;split at h
   .rename_i e;obtain⟨rfl,rfl⟩:=e;refine⟨_,.slice A n c,h,?_,rP m (rfl:eY 48=some (1,1)) ⟨W,oy⟩⟩;simp only[bs];exact⟨false,A,n,c,xs,rfl,L,T,U,by rw[N];simp[sg]⟩
   .split at h
    .rename_i e;obtain⟨rfl,rfl⟩:=e;exact⟨_,.bool neg,h,by simp only[bs];exact⟨neg,rfl,by rw[N]⟩,rP m (rfl:eY 4=some (1,1)) ⟨V,ox⟩⟩
    .exact h.elim
 | _=>exact h.elim

def fS(w:World)(b:Nat)(cs:Array Value)(ty:TypeId):World:={ w with heap:=w.heap.setIfInBounds b (.cells cs ty (0,0)) }
def jG(a:b<w.heap.size)(cs:Array Value)(ty:TypeId)(k:Nat):(fS w b cs ty).heap[k]? = if k=b then some (.cells cs ty (0,0))else w.heap[k]?:=by
 simp only[fS];by_cases e:k=b
 .subst e;simp[a]
 .rw[af e,dR (aj e)]
def C4(w:World)(b:Nat)(cs:Array Value)(ty:TypeId):(fS w b cs ty).heap.size=w.heap.size:=by simp[fS]
def C5{cs:Array Value}(h:w.heap[b]? = some (.cells cs ty (0,0))):fS w b cs ty=w:=by
 unfold fS;have:w.heap.setIfInBounds b (.cells cs ty (0,0))=w.heap:=by
  apply qT;intro i;by_cases e:i=b
  .subst e;rw[iD (gA h),h]
  .rw[dR (aj e)]
 rw[this]
def yb(w:World)(b:Nat)(c a:Array Value)(ty:TypeId):fS (fS w b c ty) b a ty=fS w b a ty:=by
 simp[fS]
def ye{off:Nat}{cs:Array Value}(h:w.heap[b]? = some (.cells cs ty (0,0)))(u:Value):w.setCell ⟨b,off,ab⟩ u=fS w b (cs.setIfInBounds off u) ty:=by
 unfold World.setCell fS;congr 1;apply qT;intro i;rw[T0];by_cases e:b=i
 .subst e;rw[ai rfl,h,iD (gA h)];rfl
 .rw[af e,dR e]
def eW(cs:Array Value)(o:Nat):List Value->Array Value
 | []=>cs
 | v::l=>eW (cs.setIfInBounds o v) (o+1) l
theorem iG:∀(l:List Value) (cs:Array Value) (o:Nat),(eW cs o l).size=cs.size
 | [],_,_=>rfl
 | v::l,cs,o=>by simp[eW,iG l]
theorem iN:∀(l:List Value) (cs:Array Value) (o j:Nat),o+l.length<=cs.size->(eW cs o l)[j]? = if o<=j/\j<o+l.length then l[j-o]? else cs[j]?
 | [],cs,o,j,_=>by rw[af (by simp only[fR];omega)];rfl
 | v::l,cs,o,j,h=>by
  simp only[cq]at h;rw[eW,iN l _ (o+1) j (by simp;omega)]
  by_cases e:j=o
  .subst e;rw[af om,ai sm,iD om];simp
  .rw[dR (aj e)];by_cases a:o+1<=j/\j<o+1+l.length
   .rw[ai a,ai (by simp;omega),(om:j-o=(j-(o+1))+1),ci]
   .rw[af a,af (by simp;omega)]
theorem kf(P:Program){b off:Nat}{ty:TypeId}:∀(l:List Value) (w:World) (cs:Array Value) (i:Nat),w.heap[b]? = some (.cells cs ty (0,0))->off+i+l.length<=cs.size->(∀u∈l,one u) ->
  (storeCells ⟨b,off,ab⟩ l i).run P w=.ok () (fS w b (eW cs (off+i) l) ty)
 | [],w,cs,i,h,_,_=>by simp[storeCells,eW,C5 h]
 | v::l,w,cs,i,h,f,e=>by
  simp only[cq]at f;have g:=e v (eH ..);have hcell:w.cell? ⟨b,off+i,ab⟩=cs[off+i]?:=oD h;have a:cs[off+i]? = some cs[off+i]:=cw om;have c:w.frozen? ⟨b,off+i,ab⟩=false:=by simp[World.frozen?,h]
  have d:(store ⟨b,off+i,ab⟩ v).run P w=.ok () (fS w b (cs.setIfInBounds (off+i) v) ty):=by
   cases v<;>first|exact g.elim|simp[store,Sem.run,hcell,a,c,ye h]
  have ih:=kf P (b:=b) (off:=off) (ty:=ty) l (fS w b (cs.setIfInBounds (off+i) v) ty) (cs.setIfInBounds (off+i) v) (i+1)
   (by rw[jG (gA h),ai rfl]) (by simp;omega) (fun u j=>e u (dT _ j))
  simp only[storeCells,iP,jZ,d,ip,ih,yb,eW];rfl
def eF:Nat->AV->Prop
 | 1,.int k _=>k≠.u32
 | 1,.bool _=>True
 | 1,.nil=>True
 | 1,.sl ..=>True
 | 1,.ptr ..=>True
 | 1,.lst ..=>True
 | 1,.pat ..=>True
 | 1,.fn ..=>True
 | 1,.nfn=>True
 | 1,.mfn ..=>True
 | 2,.big _=>True
 | _,_=>False
def Dk(h:eF es y)(a:bs w M y v) :
  (es=1/\one v/\lU v)∨(es=2/\∃p q,v=.agg #[p,q]/\one p/\one q/\lU p/\lU q):=by
 match es,y,h,a with
 | 1,.int k n,h,a =>
  simp only[bs]at a;subst a;refine bF ⟨rfl,trivial,?_⟩
  cases k<;>first|trivial|exact absurd rfl h
 | 1,.bool _,h,a=>simp only[bs]at a;subst a;exact bF ⟨rfl,trivial,trivial⟩
 | 1,.nil,h,a=>simp only[bs]at a;subst a;exact bF ⟨rfl,trivial,trivial⟩
 | 1,.sl ..,h,a=>simp only[bs]at a;obtain⟨_,_,_,_,rfl,_⟩:=a;exact bF ⟨rfl,trivial,trivial⟩
 | 1,.ptr ..,h,a=>simp only[bs]at a;subst a;exact bF ⟨rfl,trivial,trivial⟩
 | 1,.lst ..,h,a=>simp only[bs]at a;obtain⟨_,_,rfl,_⟩:=a;exact bF ⟨rfl,trivial,trivial⟩
 | 1,.pat ..,h,a=>simp only[bs]at a;obtain⟨_,_,_,rfl,_⟩:=a;exact bF ⟨rfl,trivial,trivial⟩
 | 1,.fn ..,h,a=>simp only[bs]at a;obtain⟨_,rfl,_⟩:=a;exact bF ⟨rfl,trivial,trivial⟩
 | 1,.nfn,h,a=>simp only[bs]at a;subst a;exact bF ⟨rfl,trivial,trivial⟩
 | 1,.mfn ..,h,a=>simp only[bs]at a;obtain⟨_,rfl,_⟩:=a;exact bF ⟨rfl,trivial,trivial⟩
 | 2,.big z,h,a =>
  simp only[bs]at a;obtain⟨neg,A,n,c,xs,rfl,_⟩:=a;exact bH ⟨rfl,_,_,rfl,trivial,trivial,trivial,trivial⟩
def rM(h:eF es y)(e:bs w M y v) :
  v.cells.size=es/\(∀u∈v.cells.toList,one u/\lU u)/\∀(cs:Array Value) (o:Nat),(∀j,j<es->cs[o+j]? = v.cells[j]?)->reads cs o es v:=by
 rcases Dk h e with⟨rfl,a,c⟩|⟨rfl,p,q,rfl,a,c,f,g⟩
 .rw[rR a];refine⟨rfl,fun u b=>by simp at b;subst b;exact⟨a,c⟩,fun cs o d=>?_⟩
  have:=d 0 om;simp only[reads];exact⟨by simpa using this,a⟩
 .refine⟨rfl,fun u b=>?_,fun cs o d=>?_⟩
  .simp[Value.cells]at b;rcases b with rfl|rfl
   .exact⟨a,f⟩
   .exact⟨c,g⟩
  .simp only[reads];exact⟨p,q,rfl,a,c,by simpa [Value.cells]using d 0 om,by simpa [Value.cells]using d 1 om⟩
def O3(h:S b≠ab):(S.upd b X).dom=S.dom:=by
 funext k;simp only[St.dom,St.upd];by_cases e:k=b
 .subst e;simp[h]
 .simp[e]
def eM.write(f:eM w S){b:Nat}{X X':eS}(l:S b=some X){cs cs':Array Value}(s:w.heap[b]? = some (.cells cs X.ty (0,0)))(o:cs'.size=cs.size)
  (t:X'.ty=X.ty) (v:X'.es*X'.n<=cs'.size) (x:∀j,j<X'.n->∃u,reads cs' (X'.es*j) X'.es u/\bs w S.dom (X'.g j) u) (A:∀(k:Nat) (y:Value),cs'[k]? = some y->lU y) :
  eM (fS w b cs' X.ty) (S.upd b X')/\dz S.dom (S.upd b X').dom w (fS w b cs' X.ty):=by
 have a:=gA s;have B:(S.upd b X').dom=S.dom:=O3 (by rw[l];simp)
 have m:dz S.dom (S.upd b X').dom w (fS w b cs' X.ty):=by
  rw[B];refine⟨rfl,rfl,rfl,by rw[C4];exact ae _,fun k H C=>?_,fun k c ty fr p=>?_,fun _ _ h=>h⟩
  .rw[jG a,af];intro e;subst e;exact C (by simp[St.dom,l])
  .rw[jG a];by_cases e:k=b
   .subst e;rw[s]at p;cases p;exact⟨cs',by rw[ai rfl],o⟩
   .exact⟨c,by rw[af e];exact p,rfl⟩
 refine⟨⟨St.upd0 f.z (fun e=>by subst e;rw[f.z]at l;cases l),f.grow m,fun k Y i=>?_⟩,m⟩
 simp only[St.upd]at i;by_cases e:k=b
 .subst e;rw[ai rfl]at i
  cases i
  refine⟨cs',by rw[jG a,ai rfl,t],v,fun j d=>?_,A⟩
  obtain⟨u,q,r⟩:=x j d;exact⟨u,q,bs.grow f.noU m _ _ r⟩
 .rw[af e]at i;obtain⟨c,q,r,D,E⟩:=f k Y i;refine⟨c,by rw[jG a,af e];exact q,r,fun j d=>?_,E⟩
  obtain⟨u,F,G⟩:=D j d;exact⟨u,F,bs.grow f.noU m _ _ G⟩
def eM.new(a:eM w S){X:eS}{cs:Array Value}(p:X.es*X.n<=cs.size)
  (q:∀j,j<X.n->∃u,reads cs (X.es*j) X.es u/\bs w S.dom (X.g j) u) (r:∀(k:Nat) (y:Value),cs[k]? = some y->lU y) :
  S w.heap.size=ab/\eM (w.alloc (.cells cs X.ty)) (S.upd w.heap.size X)/\dz S.dom (S.upd w.heap.size X).dom w (w.alloc (.cells cs X.ty)):=by
 have hnone:S w.heap.size=ab:=by
  cases e:S w.heap.size with
  | none=>rfl
  | some Y =>
   obtain⟨c,d,_⟩:=a _ Y e;exact absurd (gA d) (cZ _)
 have h:∀k,(w.alloc (.cells cs X.ty)).heap[k]? = if k=w.heap.size then some (.cells cs X.ty (0,0))else w.heap[k]?:=by
  intro k;show(w.heap.push _)[k]? = _;rw[Array.getElem?_push]
 have i:dz S.dom (S.upd w.heap.size X).dom w (w.alloc (.cells cs X.ty)):=by
  refine⟨rfl,rfl,rfl,sm,fun k s _=>?_,fun k c ty fr o=>⟨c,?_,rfl⟩,fun k s l=>?_⟩
  .rw[h,af om]
  .rw[h,af (by have:=gA o;omega)];exact o
  .simp only[St.dom,St.upd]at l;rw[af om]at l;exact l
 refine⟨hnone,⟨St.upd0 a.z (by have:=a.gl.pos;omega),a.grow i,fun k Y f=>?_⟩,i⟩
 simp only[St.upd]at f;by_cases e:k=w.heap.size
 .rw[ai e]at f
  cases f
  refine⟨cs,by rw[h,ai e],p,fun j b=>?_,r⟩
  obtain⟨u,d,m⟩:=q j b;exact⟨u,d,bs.grow a.noU i _ _ m⟩
 .rw[af e]at f;obtain⟨c,d,m,t,v⟩:=a k Y f;refine⟨c,by rw[h,af e];exact d,m,fun j b=>?_,v⟩
  obtain⟨u,x,A⟩:=t j b;exact⟨u,x,bs.grow a.noU i _ _ A⟩

def Er(s:Sem Value)(w:World)(S:St)(K:AV->St->Prop):Prop :=
 ∃z v w' S',K z S'/\bs w' S'.dom z v/\eM w' S'/\dz S.dom S'.dom w w'/\s.run ah w=.ok v w'
def bW(g:Nat->AV)(i:Nat)(y:AV):Nat->AV:=fun j=>if j=i then y else g j
def iW(g:Nat->AV)(i:Nat)(l:List AV):Nat->AV:=fun j=>if i<=j/\j<i+l.length then l.getD (j-i) .any else g j
def qh(t:TypeId)(x y:AV)(S:St)(K:St->Prop):Prop:=match x with
 | .ptr es b i=>(match S b with
  | some X=>(match eY t with
   | some (es',k)=>es'=es/\X.es=es/\i+k<=X.n/\(if k=1 then eF es y/\K (S.upd b { X with g:=bW X.g i y })else(match y with
    | .agg l=>l.length=k/\(∀z∈l,eF es z)/\K (S.upd b { X with g:=iW X.g i l })
    | _=>False))
   | ab=>False)
  | ab=>False)
 | _=>False
theorem iM{w:World}{M:Nat->Prop}{es:Nat}:∀(l:List AV) (vs:List Value),aT w M l vs->(∀z∈l,eF es z) ->
  vs.length=l.length/\(vs.flatMap (fun u=>u.cells.toList)).length=es*l.length/\(∀u∈vs.flatMap (fun u=>u.cells.toList),one u/\lU u) /\
  ∀j,j<l.length->∃u,bs w M (l.getD j .any) u/\∀(cs:Array Value) (o:Nat),(∀q,q<es*l.length->cs[o+q]? = (vs.flatMap (fun u=>u.cells.toList))[q]?)->reads cs (o+es*j) es u
 | [],[],_,_=>⟨rfl,sm,sm,fun j e=>by simp at e⟩
 | a::l,v::vs,d,k=>by
  simp only[aT]at d;have n:=k a (eH ..);obtain⟨p,r,s⟩:=rM n d.1;obtain⟨t,x,y,A⟩:=iM l vs d.2 (fun z B=>k z (dT _ B));have c:v.cells.toList.length=es:=by simpa using p
  refine⟨by simp[t],by simp only[dD,CS,c,x,cq];rw[eN];omega,fun u b=>?_,fun j e=>?_⟩
  .simp only[dD,Ka]at b;rcases b with b|b
   .exact r u b
   .exact y u b
  .simp only[cq]at e
   cases j with
   | zero =>
    refine⟨v,by simpa using d.1,fun cs o f=>?_⟩
    rw[dS,cF];refine s cs o (fun q C=>?_);rw[f q (by rw[cq,eN];omega),dD,et om]
    simp
   | succ j =>
    obtain⟨u,g,i⟩:=A j om;refine⟨u,by simpa using g,fun cs o f=>?_⟩
    have:=i cs (o+es) (fun q C=>by
     have m:=f (es+q) (by rw[cq,eN];omega)
     rw[dD,ef om,c,(om:es+q-es=q)]at m
     rw[<-m];congr 1;omega)
    rw[eN,(om:o+(es*j+es)=o+es+es*j)]
    exact this
 | [],_::_,h,_=>by simp[aT]at h
 | _::_,[],h,_=>by simp[aT]at h
def kR{cs:Array Value}{o:Nat}(h:reads cs o es u)(hsame:∀q,q<es->cs'[o+q]? = cs[o+q]?):reads cs' o es u:=by
 match es,h with
 | 1,h=>simp only[reads]at h ⊢;have:=hsame 0 om;simp only[cF]at this;exact⟨by rw[this];exact h.1,h.2⟩
 | 2,h =>
  simp only[reads]at h ⊢;obtain⟨x,y,e,b,c,d,f⟩:=h;have a:=hsame 0 om;have g:=hsame 1 om;simp only[cF]at a;exact⟨x,y,e,b,c,by rw[a];exact d,by rw[g];exact f⟩
def qV(t:eM w S){b:Nat}{X:eS}(v:S b=some X)(l:List AV)(vs:List Value)(B:aT w S.dom l vs)(C:∀z∈l,eF X.es z)(i:Nat)(D:i+l.length<=X.n) :
  ∃cs,w.heap[b]? = some (.cells cs X.ty (0,0))/\X.es*i+(vs.flatMap (fun u=>u.cells.toList)).length<=cs.size/\(∀u∈vs.flatMap (fun u=>u.cells.toList),one u) /\
   eM (fS w b (eW cs (X.es*i) (vs.flatMap (fun u=>u.cells.toList))) X.ty) (S.upd b { X with g:=iW X.g i l }) /\
   dz S.dom (S.upd b { X with g:=iW X.g i l }).dom w (fS w b (eW cs (X.es*i) (vs.flatMap (fun u=>u.cells.toList))) X.ty):=by
 obtain⟨cs,x,c,E,f⟩:=t b X v;obtain⟨H,m,A,F⟩:=iM l vs B C;have a:X.es*i+(vs.flatMap (fun u=>u.cells.toList)).length<=cs.size:=by
  rw[m,<-cg];exact bQ (aM _ D) c
 refine⟨cs,x,a,fun u f=>(A u f).1,?_⟩;refine eM.write t v x (iG _ _ _) rfl (by rw[iG];exact c) (fun j o=>?_) (fun k y e=>?_)
 .show ∃u,reads _ (X.es*j) X.es u/\bs w S.dom (iW X.g i l j) u;unfold iW;by_cases d:i<=j/\j<i+l.length
  .rw[ai d];obtain⟨u,p,r⟩:=F (j-i) om;refine⟨u,?_,p⟩;have:=r (eW cs (X.es*i) (vs.flatMap (fun u=>u.cells.toList))) (X.es*i) (fun q G=>by
    rw[iN _ _ _ _ a,ai (by rw[m];omega)];congr 1;omega)
   rw[<-cg,(om:i+(j-i)=j)]at this
   exact this
  .rw[af d];obtain⟨u,p,r⟩:=E j o;refine⟨u,kR p (fun q G=>?_),r⟩;rw[iN _ _ _ _ a,af];rw[m];intro I;have s:j<i∨i+l.length<=j:=om
   rcases s with h|h
   .have:X.es*(j+1)<=X.es*i:=aM _ h;rw[eN]at this;omega
   .have:X.es*(i+l.length)<=X.es*j:=aM _ h;rw[cg]at this;omega
 .rw[iN _ _ _ _ a]at e;split at e
  .exact(A y (fL e)).2
  .exact f k y e
def KF(g:Nat->AV)(i:Nat)(y:AV):iW g i [y]=bW g i y:=by
 funext j;simp only[iW,bW,cq,fR];by_cases e:j=i
 .subst e;rw[ai om,ai rfl];simp
 .rw[af om,af e]
def xu{off t:Nat}{cs:Array Value}(h:w.heap[b]? = some (.cells cs ty (0,0)))(g:eY t=some (es,k))(v:Value)(j:v.cells.size=es*k)
  (a:off+v.cells.size<=cs.size) (l:∀u∈v.cells.toList,one u) :
  (Instr.storeAt t (.pointer (some ⟨b,off,ab⟩)) v).run ah w=.ok () (fS w b (eW cs off v.cells.toList) ty):=by
 obtain⟨c,_,_⟩:=rO g;obtain⟨i,d,m,n,o,p⟩:=zr c;have f:=kf ah (b:=b) (off:=off) (ty:=ty) v.cells.toList w cs 0 h (by simpa using a) l
 rw[cF]at f;have e:¬(v.cells.size≠i.size):=by rw[n,j];simp
 simp only[Instr.storeAt,Instr.sureAddr,pure_bind,storeVar,jZ,c9 m,ip];rw[af e];simp[f]
def Ec{K:St->Prop}(h:qh t x y S K){w:World}(r:eM w S){vx vy:Value}(s:bs w S.dom x vx)(m:bs w S.dom y vy) :
  ∃w' S',K S'/\eM w' S'/\dz S.dom S'.dom w w'/\(Instr.storeAt t vx vy).run ah w=.ok () w':=by
 cases x with
 | ptr es b i =>
  simp only[qh]at h
  cases n:S b with
  | none=>rw[n]at h;exact h.elim
  | some X =>
   rw[n]at h
   cases o:eY t with
   | none=>rw[o]at h;exact h.elim
   | some p =>
    obtain⟨es',k⟩:=p;rw[o]at h;obtain⟨rfl,rfl,v,c⟩:=h;simp only[bs]at s;subst s;by_cases d:k=1
    .subst d;rw[ai rfl]at c;obtain⟨cs,q,a,e,f,g⟩:=qV r n [y] [vy] (by simp only[aT];exact⟨m,trivial⟩) (fun z A=>by simp at A;subst A;exact c.1) i (by simpa using v)
     simp only[dD,GO,wN]at a e f g;rw[KF]at f g;refine⟨_,_,c.2,f,g,?_⟩;obtain⟨E,_,_⟩:=rM c.1 m;exact xu q o vy (by rw[E,r9]) (by simpa using a) e
    .rw[af d]at c
     cases y with
     | agg l =>
      simp only at c;obtain⟨B,j,c⟩:=c;simp only[bs]at m;obtain⟨vs,rfl,C⟩:=m;obtain⟨cs,q,a,e,f,g⟩:=qV r n l vs C j i (by rw[B];exact v)
      refine⟨_,_,c,f,g,?_⟩;obtain⟨_,D,_,_⟩:=iM l vs C j;generalize vs.flatMap (fun u=>u.cells.toList)=fl at a e D ⊢;exact xu (off:=X.es*i) q o (.agg fl.toArray) (by show fl.toArray.size=_;rw[co,D,B]) (by show _+fl.toArray.size<=_;rw[co];exact a) e
     | _=>exact c.elim
 | _=>exact h.elim

def eJ.zero(w:World):eJ w w.heap.size (.agg #[.bool false,.slice ab 0 0]) 0 :=
 ⟨false,ab,0,0,[],rfl,ae _,⟨rfl,by simp[nh],fun h=>absurd h om⟩,by intro x a;simp at a,by simp[aZ,sg]⟩
def gG:TypeId->Option (Nat×AV×Value)
 | 2=>some (1,.int .i64 0,.int .i64 0)
 | 3=>some (1,.int .i64 0,.int .i64 0)
 | 4=>some (1,.bool false,.bool false)
 | 28=>some (1,.nil,.slice ab 0 0)
 | 29=>some (1,.nil,.slice ab 0 0)
 | 52=>some (1,.nil,.slice ab 0 0)
 | 59=>some (1,.nil,.slice ab 0 0)
 | 50=>some (2,.big 0,.agg #[.bool false,.slice ab 0 0])
 | _=>ab
def mz(P:Program)(t:TypeId):Option (Value×Nat×Nat):=(P.info? t).bind fun i=>i.zero.map fun z=>(z,i.size,i.bytes)
def o7{t:Nat}(h:gG t=some (es,x,z)):∃i,ah.info? t=some i/\i.zero=some z/\i.size=es/\i.bytes<=32/\0<es/\z.cells.size=es/\eF es x/\∀w M,bs w M x z:=by
 have key:∀(z':Value) (s b:Nat),mz ah t=some (z',s,b)->b<=32->∃i,ah.info? t=some i/\i.zero=some z'/\i.size=s/\i.bytes<=32:=by
  intro z' s b f j;unfold mz at f
  cases g:ah.info? t with
  | none=>rw[g]at f;simp at f
  | some i =>
   rw[g]at f;simp only[dE,cV,ib]at f;obtain⟨z2,a,c,d,e⟩:=f;exact⟨i,rfl,by rw[a,c],d,om⟩
 unfold gG at h;split at h
 .cases h;obtain⟨i,a,c,d,e⟩:=key (.int .i64 0) 1 8 kr om;exact⟨i,a,c,d,e,om,rfl,by simp[eF],fun w M=>by simp[bs]⟩
 .cases h;obtain⟨i,a,c,d,e⟩:=key (.int .i64 0) 1 8 kr om;exact⟨i,a,c,d,e,om,rfl,by simp[eF],fun w M=>by simp[bs]⟩
 .cases h;obtain⟨i,a,c,d,e⟩:=key (.bool false) 1 1 kr om;exact⟨i,a,c,d,e,om,rfl,by simp[eF],fun w M=>by simp[bs]⟩
 .cases h;obtain⟨i,a,c,d,e⟩:=key (.slice ab 0 0) 1 24 kr om;exact⟨i,a,c,d,e,om,rfl,by simp[eF],fun w M=>by simp[bs]⟩
 .cases h;obtain⟨i,a,c,d,e⟩:=key (.slice ab 0 0) 1 24 kr om;exact⟨i,a,c,d,e,om,rfl,by simp[eF],fun w M=>by simp[bs]⟩
 .cases h;obtain⟨i,a,c,d,e⟩:=key (.slice ab 0 0) 1 24 kr om;exact⟨i,a,c,d,e,om,rfl,by simp[eF],fun w M=>by simp[bs]⟩
 .cases h;obtain⟨i,a,c,d,e⟩:=key (.slice ab 0 0) 1 24 kr om;exact⟨i,a,c,d,e,om,rfl,by simp[eF],fun w M=>by simp[bs]⟩
 .cases h;obtain⟨i,a,c,d,e⟩:=key (.agg #[.bool false,.slice ab 0 0]) 2 32 kr om;exact⟨i,a,c,d,e,om,rfl,by simp[eF],fun w M=>by simp only[bs];exact eJ.zero w⟩
 .cases h
def l7(c:eM w S){es:Nat}(t:TypeId)(l:List AV)(vs:List Value)(d:aT w S.dom l vs)(e:∀z∈l,eF es z) :
  S w.heap.size=ab/\eM (w.alloc (.cells (vs.flatMap (fun u=>u.cells.toList)).toArray t)) (S.upd w.heap.size ⟨t,es,l.length,fun j=>l.getD j .any⟩) /\
   dz S.dom (S.upd w.heap.size ⟨t,es,l.length,fun j=>l.getD j .any⟩).dom w (w.alloc (.cells (vs.flatMap (fun u=>u.cells.toList)).toArray t))/\(vs.flatMap (fun u=>u.cells.toList)).length=es*l.length:=by
 obtain⟨n,a,f,g⟩:=iM l vs d e;have:=eM.new c (X:=⟨t,es,l.length,fun j=>l.getD j .any⟩) (cs:=(vs.flatMap (fun u=>u.cells.toList)).toArray) (by simp only[co];rw[a];exact ae _) (fun j h=>by
   obtain⟨u,i,m⟩:=g j h;refine⟨u,?_,i⟩;have:=m (vs.flatMap (fun u=>u.cells.toList)).toArray 0 (fun q _=>by simp)
   simpa using this) (fun k y b=>by
   rw[fC]at b;exact(f y (fL b)).2)
 exact⟨this.1,this.2.1,this.2.2,a⟩
theorem kt{w:World}{M:Nat->Prop}{x:AV}{v:Value}(h:bs w M x v):∀n,aT w M (bU n x) (bU n v)
 | 0=>by simp[aT]
 | n+1=>by simp only[kb,aT];exact⟨h,kt h n⟩
def eM.reg{Y:eS}(h:eM w (S.upd b X))(m:Y.ty=X.ty)(f:Y.es=X.es)(i:Y.n=X.n)(o:∀j,j<X.n->Y.g j=X.g j):eM w (S.upd b Y)/\(S.upd b Y).dom=(S.upd b X).dom:=by
 have l:(S.upd b Y).dom=(S.upd b X).dom:=by
  funext k;simp only[St.dom,St.upd];by_cases e:k=b<;>simp[e]
 refine⟨⟨?_,h.gl,fun k Z a=>?_⟩,l⟩
 .have c:=h.z;simp only[St.upd]at c ⊢;by_cases e:0=b
  .rw[ai e]at c;cases c
  .rw[af e]at c ⊢;exact c
 rw[l];simp only[St.upd]at a;by_cases e:k=b
 .rw[ai e]at a
  cases a
  obtain⟨cs,p,q,r,s⟩:=h k X (by simp[St.upd,e])
  refine⟨cs,by rw[m];exact p,by rw[f,i];exact q,fun j d=>?_,s⟩
  rw[i]at d;obtain⟨u,t,v⟩:=r j d;rw[f,o j d];exact⟨u,t,v⟩
 .rw[af e]at a;exact h k Z (by simp[St.upd,e,a])
def Ah{n j:Nat}(h:j<n)(x d:AV):(bU n x).getD j d=x:=by simp[cT,h]
def mU(t:TypeId)(S:St)(K:AV->St->Prop):Prop:=match gG t with
 | some (es,x,_)=>∀b,S b=ab->K (.ptr es b 0) (S.upd b ⟨t,es,1,fun _=>x⟩)
 | ab=>(match t with
  | 167=>∀b,S b=ab->K (.ptr 2 b 0) (S.upd b ⟨167,2,2,fun _=>.big 0⟩)
  | 197=>∀b,S b=ab->K (.ptr 2 b 0) (S.upd b ⟨197,2,7,fun _=>.big 0⟩)
  | 218=>∀b,S b=ab->K (.ptr 1 b 0) (S.upd b ⟨218,1,2,fun j=>if j=0 then .nil else .int .i64 0⟩)
  | 202=>∀b,S b=ab->K (.ptr 1 b 0) (S.upd b ⟨202,1,2,fun _=>.int .u64 0⟩)
  | _=>False)
def Ci(a:ah.info? t=some i)(b:i.zero=some z)(w:World) :
  (Instr.alloc t true (.tuple #[])).run ah w=.ok (.pointer (some ⟨w.heap.size,0,ab⟩)) (w.alloc (.cells z.cells t)):=by
 simp[Instr.alloc,zeroValue,typeInfo,a,b,newVar,newRow]
def oa(a:eM w S){t es:Nat}(l:List AV)(vs:List Value){i:TypeInfo}{z:Value}(c:ah.info? t=some i)(d:i.zero=some z)(e:z.cells=(vs.flatMap (fun u=>u.cells.toList)).toArray)
  (f:aT w S.dom l vs) (h:∀y∈l,eF es y) (Y:eS) (k:Y.ty=t) (m:Y.es=es) (o:Y.n=l.length) (p:∀j,j<l.length->Y.g j=l.getD j .any) {K:AV->St->Prop} (q:∀b,S b=ab->K (.ptr es b 0) (S.upd b Y)) :
  Er (Instr.alloc t true (.tuple #[])) w S K:=by
 obtain⟨r,s,v,_⟩:=l7 a t l vs f h;obtain⟨x,A⟩:=eM.reg s (Y:=Y) k m o p;refine⟨_,.pointer (some ⟨w.heap.size,0,ab⟩),_,_,q _ r,by simp[bs],x,by rw[A];exact v,?_⟩
 rw[Ci c d,e]
def Ei{K:AV->St->Prop}(h:mU t S K){w:World}(g:eM w S):Er (Instr.alloc t true (.tuple #[])) w S K:=by
 have key:∀(z':Value) (s b:Nat),mz ah t=some (z',s,b)->∃i,ah.info? t=some i/\i.zero=some z':=by
  intro z' s b f;unfold mz at f
  cases l:ah.info? t with
  | none=>rw[l]at f;simp at f
  | some i =>
   rw[l]at f;simp only[dE,cV,ib]at f;obtain⟨z2,d,e,m,n⟩:=f;exact⟨i,rfl,by rw[d,e]⟩
 unfold mU at h
 cases k:gG t with
 | some p =>
  obtain⟨es,x,z⟩:=p;rw[k]at h;obtain⟨i,d,e,m,n,r,u,o,q⟩:=o7 k;exact oa g [x] [z] d e sm (by simp only[aT];exact⟨q _ _,trivial⟩) (fun y a=>by simp at a;subst a;exact o) ⟨t,es,1,fun _=>x⟩ rfl rfl rfl (fun j c=>by simp at c;subst c;rfl) h
 | none =>
  rw[k]at h;have zb:∀M,bs w M (.big 0) (.agg #[.bool false,.slice ab 0 0]):=fun M=>by simp only[bs];exact eJ.zero w
  simp only at h;split at h
  .obtain⟨i,d,e⟩:=key (.agg #[.bool false,.slice ab 0 0,.bool false,.slice ab 0 0]) 4 64 kr
   exact oa g (bU 2 (.big 0)) (bU 2 (.agg #[.bool false,.slice ab 0 0])) d e rfl (kt (zb _) 2) (fun y a=>by rw[gH a];simp[eF]) ⟨167,2,2,fun _=>.big 0⟩ rfl rfl rfl
    (fun j c=>(Ah (by rw[lc]at c;exact c) _ _).symm) h
  .obtain⟨i,d,e⟩:=key (.agg (bU 7 [.bool false,.slice ab 0 0]).flatten.toArray) 14 224 kr
   exact oa g (bU 7 (.big 0)) (bU 7 (.agg #[.bool false,.slice ab 0 0])) d e rfl (kt (zb _) 7) (fun y a=>by rw[gH a];simp[eF]) ⟨197,2,7,fun _=>.big 0⟩ rfl rfl rfl
    (fun j c=>(Ah (by rw[lc]at c;exact c) _ _).symm) h
  .obtain⟨i,d,e⟩:=key (.agg #[.slice ab 0 0,.int .i64 0]) 2 32 kr
   exact oa g [.nil,.int .i64 0] [.slice ab 0 0,.int .i64 0] d e rfl (by simp[aT,bs]) (fun y a=>by simp at a;rcases a with rfl|rfl<;>simp[eF]) ⟨218,1,2,fun j=>if j=0 then .nil else .int .i64 0⟩ rfl rfl rfl
    (fun j c=>by match j with
     | 0=>rfl
     | 1=>rfl
     | j+2=>exact absurd c (by simp only[cq,fR];omega)) h
  .obtain⟨i,d,e⟩:=key (.agg #[.int .u64 0,.int .u64 0]) 2 16 kr
   exact oa g [.int .u64 0,.int .u64 0] [.int .u64 0,.int .u64 0] d e rfl (by simp[aT,bs]) (fun y a=>by simp at a;subst a;simp[eF]) ⟨202,1,2,fun _=>.int .u64 0⟩ rfl rfl rfl
    (fun j c=>by match j with
     | 0=>rfl
     | 1=>rfl
     | j+2=>exact absurd c (by simp only[cq,fR];omega)) h
  .exact h.elim

def kq(t:TypeId)(x:AV)(S:St)(K:AV->St->Prop):Prop:=match eY t with
 | some (es,k)=>if k=1 then eF es x/\∀b,S b=ab->K (.ptr es b 0) (S.upd b ⟨t,es,1,fun _=>x⟩)else(match x with
  | .agg l=>l.length=k/\(∀z∈l,eF es z)/\∀b,S b=ab->K (.ptr es b 0) (S.upd b ⟨t,es,k,fun j=>l.getD j .any⟩)
  | _=>False)
 | ab=>False
def Jr(t:TypeId)(v:Value)(w:World):(Instr.box t v).run ah w=.ok (.pointer (some ⟨w.heap.size,0,ab⟩)) (w.alloc (.cells v.cells t)):=by
 simp[Instr.box,newVar,newRow]
def II{t:TypeId}{x:AV}{S:St}{K:AV->St->Prop}(h:kq t x S K){w:World}(g:eM w S){v:Value}(d:bs w S.dom x v):Er (Instr.box t v) w S K:=by
 unfold kq at h
 cases i:eY t with
 | none=>rw[i]at h;exact h.elim
 | some p =>
  obtain⟨es,k⟩:=p;rw[i]at h;simp only at h;by_cases a:k=1
  .rw[ai a]at h;obtain⟨e,b,c,_⟩:=l7 g t [x] [v] (by simp only[aT];exact⟨d,trivial⟩) (fun z m=>by simp at m;subst m;exact h.1)
   obtain⟨o,q⟩:=eM.reg b (Y:=⟨t,es,1,fun _=>x⟩) rfl rfl rfl (fun j n=>by simp at n;subst n;rfl)
   refine⟨_,.pointer (some ⟨w.heap.size,0,ab⟩),_,_,h.2 _ e,by simp[bs],o,by rw[q];exact c,?_⟩
   rw[Jr];simp
  .rw[af a]at h
   cases x with
   | agg l =>
    simp only at h;obtain⟨r,f,s⟩:=h;simp only[bs]at d;obtain⟨vs,rfl,u⟩:=d;obtain⟨e,b,c,_⟩:=l7 g t l vs u f;rw[r]at b c;exact⟨_,.pointer (some ⟨w.heap.size,0,ab⟩),_,_,s _ e,by simp[bs],b,c,Jr ..⟩
   | _=>exact h.elim
def dJ:TypeId->Option TypeId
 | 22=>some 41
 | 28=>some 29
 | 29=>some 2
 | 52=>some 59
 | 59=>some 50
 | 146=>some 3
 | 192=>some 52
 | 216=>some 59
 | _=>ab
def bZ:TypeId->Nat
 | 50=>2
 | _=>1
def eChk(P:Program)(t:TypeId):Option (TypeId×Nat):=(P.underlying t).bind fun
 | .slice e=>(P.info? e).map fun i=>(e,i.size)
 | _=>ab
def jw{e:TypeId}(h:dJ t=some e):ah.underlying t=some (.slice e)/\∃i,ah.info? e=some i/\i.size=bZ e:=by
 have key:∀s,eChk ah t=some (e,s)->ah.underlying t=some (.slice e)/\∃i,ah.info? e=some i/\i.size=s:=by
  intro s a;unfold eChk at a
  cases b:ah.underlying t with
  | none=>rw[b]at a;simp at a
  | some d =>
   rw[b]at a
   cases d<;>simp only[dE,cV,ib,reduceCtorEq]at a
   obtain⟨i,c,rfl,f⟩:=a;exact⟨rfl,i,c,f⟩
 unfold dJ at h;split at h<;>first
  | (cases h;exact key _ kr)
  | cases h
def qi(t:TypeId)(x i:AV)(K:AV->Prop):Prop:=match dJ t,x,i with
 | some e,.sl es b off len,.int _ n=>es=bZ e/\(0<=n/\n<(len:Int))/\K (.ptr es b (off+n.toNat))
 | some e,.lst es len g,.int _ n=>es=bZ e/\(0<=n/\n<(len:Int))/\K (.pat es (g n.toNat))
 | ab,.ptr es b k,.int _ n=>(es=2/\t=195)/\(0<=n/\n<2)/\K (.ptr 2 b (k+n.toNat))
 | _,_,_=>False
def xv{e:TypeId}(a:dJ t=some e)(w:World)(b off len cap:Nat)(k:IntKind)(n:Int)(c:0<=n)(d:n<(len:Int)) :
  (Instr.indexAt t (.slice (some ⟨b,off,ab⟩) len cap) (.int k n)).run ah w=.ok (.pointer (some ⟨b,off+n.toNat*bZ e,ab⟩)) w:=by
 obtain⟨f,i,g,h⟩:=jw a;have j:0<=n/\n<(len:Int):=⟨c,d⟩;simp[Instr.indexAt,asIntOf,bL f,c9 g,h,iP,j]
def uF(h:qi t x y K){w:World}{M:Nat->Prop}{vx vy:Value}(a:bs w M x vx)(d:bs w M y vy) :
  ∃z v,K z/\bs w M z v/\(Instr.indexAt t vx vy).run ah w=.ok v w:=by
 unfold qi at h;split at h
 .rename_i e es b off len k n m;obtain⟨rfl,⟨f,j⟩,l⟩:=h;simp only[bs]at a d;obtain⟨cap,cs,ty,fr,rfl,_,_,_⟩:=a;subst d;refine⟨_,_,l,?_,xv m w b _ len cap k n f j⟩;simp only[bs];rw[cg,aA (bZ e) n.toNat]
 .rename_i e es len g k n m;obtain⟨rfl,⟨f,j⟩,l⟩:=h;simp only[bs]at a d;obtain⟨A,c,rfl,p,s⟩:=a;subst d;obtain⟨b,off,rfl,o,B,C⟩:=s om;obtain⟨u,q,r⟩:=C n.toNat om;refine⟨_,_,l,?_,xv m w b _ len c k n f j⟩;simp only[bs];exact⟨b,_,u,by rw[aA],o,B,by rw[aA];rw[aA]at q;exact q,r⟩
 .rename_i es b k kk n m;obtain⟨⟨rfl,rfl⟩,⟨f,j⟩,l⟩:=h;simp only[bs]at a d;subst a d;obtain⟨r,i,D,E⟩:=jw (t:=59) (e:=50) rfl;refine⟨_,.pointer (some ⟨b,2*k+n.toNat*2,ab⟩),l,?_,?_⟩
  .simp only[bs];rw[cg,aA n.toNat]
  .have p:0<=n/\n<2:=⟨f,j⟩;simp[Instr.indexAt,Instr.sureAddr,asIntOf,bL xN,c9 D,E,iP,p,bZ]
 .exact h.elim
def lr(t:TypeId)(x y:AV)(S:St)(K:AV->St->Prop):Prop:=match dJ t,x with
 | some e,.int _ n=>(match gG e with
  | some (es,z,_)=>x=y/\es=bZ e/\(0<=n/\n<=1099511627776)/\∀b,S b=ab->K (.sl es b 0 n.toNat) (S.upd b ⟨e,es,n.toNat,fun _=>z⟩)
  | ab=>False)
 | _,_=>False
def nf(z:Value)(n:Nat):madeCells z.cells (n*z.cells.size)=((bU n z).flatMap (fun u=>u.cells.toList)).toArray:=by
 apply qT;intro i;simp only[madeCells,UR,fC]
 induction n generalizing i with
 | zero=>simp
 | succ n ih =>
  simp only[kb,dD];by_cases h:i<z.cells.size
  .rw[et (by simpa using h)]
   have a:i<(n+1)*z.cells.size:=by rw[cW];omega
   simp[a,dX h,h]
  .rw[ef (by simp;omega)]
   have:=ih (i-z.cells.size);simp only[UH];rw[<-this];by_cases a:i<(n+1)*z.cells.size
   .have b:i-z.cells.size<n*z.cells.size:=by rw[cW]at a;omega
    have c:i%z.cells.size=(i-z.cells.size)%z.cells.size:=by
     rw[Nat.mod_eq_sub_mod om]
    simp[a,b,c]
   .have b:¬i-z.cells.size<n*z.cells.size:=by rw[cW]at a;omega
    simp[a,b]
def Gi{K:AV->St->Prop}(h:lr t x y S K){w:World}(s:eM w S){vx vy:Value}(d:bs w S.dom x vx)(b:bs w S.dom y vy):Er (Instr.makeSlice t vx vy) w S K:=by
 unfold lr at h;split at h
 .rename_i e k n u
  cases c:gG e with
  | none=>rw[c]at h;exact h.elim
  | some p =>
   obtain⟨es,z,zv⟩:=p;rw[c]at h;obtain⟨rfl,rfl,⟨f,M⟩,v⟩:=h;obtain⟨A,i,g,B⟩:=jw u;obtain⟨i',l,C,D,N,O,E,F,G⟩:=o7 c;rw[g]at l;cases l;simp only[bs]at d b;subst d b;have H:(i.bytes:Int)*n<=281474976710656:=by
    have Q:(i.bytes:Int)*n<=32*n:=ca om f;omega
   have a:=run_make (P:=ah) w t e i zv A g C k k n n f (o5 _) H om;obtain⟨I,m,o,q⟩:=l7 s e (bU n.toNat z) (bU n.toNat zv) (kt (G _ _) _) (fun y b=>by rw[gH b];exact F)
   rw[lc]at m o q;obtain⟨J,L⟩:=eM.reg m (Y:=⟨e,bZ e,n.toNat,fun _=>z⟩) rfl rfl rfl (fun j r=>by simp only at r;simp[cT,r])
   rw[D,<-E,nf zv n.toNat]at a;refine⟨_,_,_,_,v _ I,?_,J,by rw[L];exact o,a⟩
   simp only[bs];refine⟨n.toNat,_,e,(0,0),by rw[dS],ae _,jC w _,?_⟩
   simp only[co];rw[q];simp
 .exact h.elim
def gD:TypeId->Nat->Option (Nat×Nat)
 | 24,0=>some (1,0)|24,1=>some (1,1)|24,2=>some (1,2)|24,3=>some (1,3)
 | 27,0=>some (1,0)|27,1=>some (1,4)|27,2=>some (1,5)
 | 107,0=>some (1,0)|107,1=>some (1,1)
 | 160,0=>some (1,0)|160,1=>some (1,1)|160,2=>some (1,2)|160,3=>some (1,3)
 | 167,0=>some (2,0)|167,1=>some (2,1)
 | 183,0=>some (1,0)|183,1=>some (1,1)
 | 197,0=>some (2,0)|197,1=>some (2,1)|197,2=>some (2,2)|197,3=>some (2,3)|197,4=>some (2,5)
 | 218,0=>some (1,0)|218,1=>some (1,1)
 | _,_=>ab
def La(P:Program)(t f:Nat):Option (Nat×Bool):=(P.underlying t).bind fun
 | .struct fs=>(fs[f]?).bind fun fl=>(P.info? fl.type).map fun i=>(fl.offset,i.size==0)
 | _=>ab
def K9{t:Nat}(h:gD t f=some (es,k)):La ah t f=some (es*k,false):=by
 unfold gD at h;split at h<;>first
  | (cases h;kernel_rfl)
  | cases h
def NG:La ah 50 0=some (0,false):=by kernel_rfl
def NF:La ah 50 1=some (1,false):=by kernel_rfl
def qj(t:TypeId)(x:AV)(f:Nat)(K:AV->Prop):Prop:=match gD t f,x with
 | some (es',k),.ptr es b i=>es'=es/\K (.ptr es b (i+k))
 | ab,.ptr es b i=>(es=2/\t=50/\f<2)/\K (.fp b i f)
 | _,_=>False
def uG(h:qj t x f K){w:World}{M:Nat->Prop}{vx:Value}(g:bs w M x vx) :
  ∃z v,K z/\bs w M z v/\(Instr.fieldAt t vx f).run ah w=.ok v w:=by
 unfold qj at h;split at h
 .rename_i es' k es b i o;obtain⟨rfl,j⟩:=h;simp only[bs]at g;subst g;have a:=K9 o;unfold La at a
  cases e:ah.underlying t with
  | none=>rw[e]at a;simp at a
  | some d =>
   rw[e]at a
   cases d<;>simp only[dE,reduceCtorEq]at a
   rename_i fs
   cases c:fs[f]? with
   | none=>rw[c]at a;simp at a
   | some fl =>
    rw[c]at a;simp only[dE,cV,ib,il]at a;obtain⟨ii,l,m,n⟩:=a;refine⟨_,.pointer (some ⟨b,es'*i+es'*k,ab⟩),j,by simp[bs,cg],?_⟩
    simp[Instr.fieldAt,bL e,c,Instr.sureAddr,fieldPlace,c9 l,n,iP,m]
 .rename_i es b i o;obtain⟨⟨rfl,rfl,p⟩,j⟩:=h;simp only[bs]at g;subst g;have a:La ah 50 f=some (f,false):=by
   have q:f=0∨f=1:=om
   rcases q with rfl|rfl
   .exact NG
   .exact NF
  unfold La at a
  cases e:ah.underlying 50 with
  | none=>rw[e]at a;simp at a
  | some d =>
   rw[e]at a
   cases d<;>simp only[dE,reduceCtorEq]at a
   rename_i fs
   cases c:fs[f]? with
   | none=>rw[c]at a;simp at a
   | some fl =>
    rw[c]at a;simp only[dE,cV,ib,il]at a;obtain⟨ii,l,m,n⟩:=a;refine⟨_,.pointer (some ⟨b,2*i+f,ab⟩),j,by simp[bs],?_⟩
    simp[Instr.fieldAt,bL e,c,Instr.sureAddr,fieldPlace,c9 l,n,iP,m]
 .exact h.elim

end Go.Proofs.YtdobfmlmenaajaaGreatDoor
