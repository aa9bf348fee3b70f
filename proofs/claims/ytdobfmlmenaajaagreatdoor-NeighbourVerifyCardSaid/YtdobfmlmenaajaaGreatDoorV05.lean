/-
  Lemmas for NeighbourVerify.
-/
import Derived.Test.YtdobfmlmenaajaaGreatDoorV04
namespace Go.Proofs.YtdobfmlmenaajaaGreatDoor
open Go.RowKit Tryz
open _root_.Classical renaming choose→dM
open _root_.List renaming replicate→bZ,getD→cS
open _root_.Option renaming none→ab
open Tryz renaming prog→ai
set_option maxHeartbeats 6400000
set_option maxRecDepth 4096
set_option linter.all false
variable{a:Act}{ad:Addr}{cs':Array Value}{op:BinOp}{N b es f j k len m:Nat}{M M' M'':Nat->Prop}{fr:Nat×Nat}{o:Obj}{d:TypeDesc}{t ty:TypeId}{i:TypeInfo}{u v z:Value}{w w':World}
inductive AV where
 | int (k:IntKind) (n:Int)
 | bool (b:Bool)
 | big (z:Int)
 | nil
 | sl (es b off len:Nat)
 | ptr (es b i:Nat)
 | lst (es n:Nat) (g:Nat->AV)
 | pat (es:Nat) (x:AV)
 | tup (l:List AV)
 | agg (l:List AV)
 | fn (f:Nat) (l:List AV)
 | mag (n:Nat)
 | fp (b i f:Nat)
 | bset (p:Bool->Prop)
 | any
 | nfn
 | mfn (f:Nat) (l:List AV)
variable{x y:AV}{K:AV->Prop}{args:List AV}{g h:Nat->AV}
structure ft where
 ty:TypeId
 es:Nat
 n:Nat
 g:Nat->AV
variable{X:ft}
abbrev St:=Nat->Option ft
variable{post post':AV->St->Prop}{S S':St}
def St.dom(S:St)(b:Nat):Prop:=S b≠none
def St.none:St:=fun _=>ab
def St.upd(S:St)(b:Nat)(x:ft):St:=fun k=>if k=b then some x else S k
def one:Value->Prop
 | .agg _=>False
 | .tuple _=>False
 | _=>True
def mc:Value->Prop
 | .int .u32 _=>False
 | _=>True
def reads(cs:Array Value)(off:Nat):Nat->Value->Prop
 | 1,u=>cs[off]? = some u/\one u
 | 2,u=>∃x y,u=.agg #[x,y]/\one x/\one y/\cs[off]? = some x/\cs[off+1]? = some y
 | _,_=>False
def wl(w:World)(b off es:Nat)(u:Value):Prop:=∃cs ty fr,w.heap[b]? = some (.cells cs ty fr)/\reads cs off es u
mutual
def bM(w:World)(M:Nat->Prop):AV->Value->Prop
 | .int k n,v=>v=.int k n
 | .bool b,v=>v=.bool b
 | .big z,v=>eV w w.heap.size v z
 | .nil,v=>v=.slice none 0 0
 | .sl es b off len,v=>∃cap cs ty fr,v=.slice (some ⟨b,es*off,none⟩) len cap/\len<=cap/\w.heap[b]? = some (.cells cs ty fr)/\es*(off+cap)<=cs.size
 | .ptr es b i,v=>v=.pointer (some ⟨b,es*i,none⟩)
 | .lst es n g,v=>∃A c,v=.slice A n c/\n<=c/\(0<n->∃b off,A=some ⟨b,off,none⟩/\b<w.heap.size/\¬M b/\∀j,j<n->∃u,wl w b (off+es*j) es u/\bM w M (g j) u)
 | .pat es x,v=>∃b off u,v=.pointer (some ⟨b,off,none⟩)/\b<w.heap.size/\¬M b/\wl w b off es u/\bM w M x u
 | .tup l,v=>∃vs:List Value,v=.tuple vs.toArray/\a6 w M l vs
 | .agg l,v=>∃vs:List Value,v=.agg (vs.flatMap (fun u=>u.cells.toList)).toArray/\a6 w M l vs
 | .fn f l,v=>∃vs:List Value,v=.func (.func f) #[] vs.toArray/\a6 w M l vs
 | .mag n,v=>eV w w.heap.size (.agg #[.bool false,v]) (n:Int)
 | .fp b i f,v=>v=.pointer (some ⟨b,2*i+f,none⟩)
 | .bset p,v=>∃s,v=.bool s/\p s
 | .any,_=>True
 | .nfn,v=>v=.nilFunc
 | .mfn f l,v=>∃vs:List Value,v=.func (.func f) vs.toArray #[]/\a6 w M l vs
def a6(w:World)(M:Nat->Prop):List AV->List Value->Prop
 | [],[]=>True
 | a::l,v::vs=>bM w M a v/\a6 w M l vs
 | [],_::_=>False
 | _::_,[]=>False
end
def fI(w:World)(S:St):Prop:=∀b x,S b=some x->∃cs,w.heap[b]? = some (.cells cs x.ty (0,0))/\x.es*x.n<=cs.size /\
 (∀j,j<x.n->∃u,reads cs (x.es*j) x.es u/\bM w S.dom (x.g j) u)/\∀(k:Nat) (y:Value),cs[k]? = some y->mc y
def NoU(M:Nat->Prop)(w:World):Prop:=∀b,M b->∀cs ty fr,w.heap[b]? = some (.cells cs ty fr)->∀(k:Nat) (y:Value),cs[k]? = some y->mc y
def fI.noU(h:fI w S):NoU S.dom w:=by
 intro b a cs ty fr c k y d;unfold St.dom at a
 cases e:S b with
 | none=>exact absurd e a
 | some x =>
  obtain⟨cs',f,_,_,g⟩:=h b x e;rw[f]at c
  cases c
  exact g k y d
structure dI(M M':Nat->Prop)(w w':World):Prop where
 os:w'.os=w.os
 tape:w'.tape=w.tape
 output:w'.output=w.output
 size:w.heap.size<=w'.heap.size
 keep:∀k,k<w.heap.size->¬M k->w'.heap[k]? = w.heap[k]?
 shape:∀(k:Nat) (cs:Array Value) (ty:TypeId) (fr:Nat×Nat),w.heap[k]? = some (Obj.cells cs ty fr)->∃cs':Array Value,w'.heap[k]? = some (Obj.cells cs' ty fr)/\cs'.size=cs.size
 own:∀k,k<w.heap.size->M' k->M k
def dI.refl(M:Nat->Prop)(w:World):dI M M w w:=⟨rfl,rfl,rfl,ae _,fun _ _ _=>rfl,fun _ cs _ _ h=>⟨cs,h,rfl⟩,fun _ _ h=>h⟩
def dI.trans{a b c:World}(h:dI M M' a b)(k:dI M' M'' b c):dI M M'' a c :=
 ⟨k.os.trans h.os,k.tape.trans h.tape,k.output.trans h.output,a9 h.size k.size,
   fun i d e=>(k.keep i (dK d h.size) (fun f=>e (h.own i d f))).trans (h.keep i d e),
   fun i cs ty fr l=>by
    obtain⟨g,m,n⟩:=h.shape i cs ty fr l;obtain⟨j,o,p⟩:=k.shape i g ty fr m;exact⟨j,o,p.trans n⟩,
   fun i d e=>h.own i d (k.own i (dK d h.size) e)⟩
def dI.weaken{a b:World}(h:dI M M' a b)(c:∀k,M'' k->M' k):dI M M'' a b :=
 ⟨h.os,h.tape,h.output,h.size,h.keep,h.shape,fun k d e=>h.own k d (c k e)⟩
def gJ(h:w.heap[b]? = some o):b<w.heap.size:=by
 rcases aF b w.heap.size with a|c
 .exact a
 .rw[eN c]at h;cases h
def AE(h:w.cell? ad=some v):∃cs ty fr,w.heap[ad.block]? = some (.cells cs ty fr)/\∃k:Nat,cs[k]? = some v:=by
 unfold World.cell? at h;split at h
 .rename_i cs ty fr a;split at h
  .cases h
  .exact⟨cs,ty,fr,a,_,h⟩
 .cases h
def eV.grow(l:NoU M w)(f:dI M M' w w'){v:Value}{z:Int}(h:eV w w.heap.size v z):eV w' w'.heap.size v z:=by
 obtain⟨neg,A,n,c,xs,m,o,b,p,q⟩:=h;refine⟨neg,A,n,c,xs,m,o,⟨b.1,b.2.1,fun r=>?_⟩,p,q⟩;obtain⟨ad,e,g,s⟩:=b.2.2 r;refine⟨ad,e,dK g f.size,fun j t=>?_⟩;have a:=s j t;have d:¬M ad.block:=by
  intro d;obtain⟨cs,ty,fr,i,k,u⟩:=AE a;rw[n0]at i;exact l _ d cs ty fr i k _ u
 rw[<-a];exact BH (w:=w) (by rw[n0];exact f.keep _ g d)
def wl.grow(a:dI M M' w w'){b off es:Nat}{u:Value}(c:b<w.heap.size)(d:¬M b)(h:wl w b off es u):wl w' b off es u:=by
 obtain⟨cs,ty,fr,e,f⟩:=h;exact⟨cs,ty,fr,(a.keep b c d).trans e,f⟩
mutual
theorem bM.grow{M M':Nat->Prop}{w w':World}(q:NoU M w)(d:dI M M' w w'):∀(a:AV) (v:Value),bM w M a v->bM w' M' a v
 | .int k n,v,h=>by simpa [bM]using h
 | .bool b,v,h=>by simpa [bM]using h
 | .big z,v,h=>by simp only[bM]at h ⊢;exact h.grow q d
 | .nil,v,h=>by simpa [bM]using h
 | .sl es b off len,v,h=>by
  simp only[bM]at h ⊢;obtain⟨cap,cs,ty,fr,m,o,y,E⟩:=h;obtain⟨cs',F,G⟩:=d.shape b cs ty fr y;exact⟨cap,cs',ty,fr,m,o,F,by rw[G];exact E⟩
 | .ptr es b i,v,h=>by simpa [bM]using h
 | .lst es n g,v,h=>by
  simp only[bM]at h ⊢;obtain⟨A,c,m,o,y⟩:=h;refine⟨A,c,m,o,fun H=>?_⟩;obtain⟨b,off,e,r,t,I⟩:=y H;refine⟨b,off,e,dK r d.size,fun s=>t (d.own b r s),fun j B=>?_⟩;obtain⟨u,C,D⟩:=I j B;exact⟨u,C.grow d r t,bM.grow q d (g j) u D⟩
 | .pat es x,v,h=>by
  simp only[bM]at h ⊢;obtain⟨b,off,u,m,r,t,C,J⟩:=h;exact⟨b,off,u,m,dK r d.size,fun s=>t (d.own b r s),C.grow d r t,bM.grow q d x u J⟩
 | .tup l,v,h=>by
  simp only[bM]at h ⊢;obtain⟨vs,m,o⟩:=h;exact⟨vs,m,a6.grow q d l vs o⟩
 | .agg l,v,h=>by
  simp only[bM]at h ⊢;obtain⟨vs,m,o⟩:=h;exact⟨vs,m,a6.grow q d l vs o⟩
 | .fn f l,v,h=>by
  simp only[bM]at h ⊢;obtain⟨vs,m,o⟩:=h;exact⟨vs,m,a6.grow q d l vs o⟩
 | .mag n,v,h=>by simp only[bM]at h ⊢;exact h.grow q d
 | .fp b i f,v,h=>by simpa [bM]using h
 | .bset p,v,h=>by simpa [bM]using h
 | .any,v,h=>by simp[bM]
 | .nfn,v,h=>by simpa [bM]using h
 | .mfn f l,v,h=>by
  simp only[bM]at h ⊢;obtain⟨vs,m,o⟩:=h;exact⟨vs,m,a6.grow q d l vs o⟩
theorem a6.grow{M M':Nat->Prop}{w w':World}(b:NoU M w)(c:dI M M' w w'):∀(l:List AV) (vs:List Value),a6 w M l vs->a6 w' M' l vs
 | [],[],_=>by simp[a6]
 | a::l,v::vs,h=>by
  simp only[a6]at h ⊢;exact⟨bM.grow b c a v h.1,a6.grow b c l vs h.2⟩
 | [],_::_,h=>by simp[a6]at h
 | _::_,[],h=>by simp[a6]at h
end
def cZ(f:Nat)(args:List AV)(S:St)(post:AV->St->Prop):Prop :=
 ∀(w:World) (vs:List Value),fI w S->a6 w S.dom args vs->Calls ai f vs.toArray w (fun e w' =>
  ∃v r S',e=.returned v/\post r S'/\bM w' S'.dom r v/\fI w' S'/\dI S.dom S'.dom w w')
def cZ.mono(h:cZ f args S post)(a:∀r S',post r S'->post' r S'):cZ f args S post' :=
 fun w vs b c=>(h w vs b c).mono fun _ _ ⟨v,r,S',d,e,g⟩=>⟨v,r,S',d,a r S' e,g⟩

abbrev Tm:=Nat->AV
variable{O:Tm}
def Tm.put_ex:∃p:Tm->Option Nat->AV->Tm,∀O d x,p O d x=(match d with
 | some d=>fun t=>if t=d then x else O t
 | ab=>O):=⟨_,fun _ _ _=>rfl⟩
noncomputable def Tm.put:Tm->Option Nat->AV->Tm:=dM Tm.put_ex
def Tm.put_eq(O:Tm)(d:Option Nat)(x:AV):O.put d x=(match d with
 | some d=>fun t=>if t=d then x else O t
 | ab=>O):=dC Tm.put_ex O d x
def RS:Value->AV
 | .int k n=>.int k n
 | .bool b=>.bool b
 | .slice ab 0 0=>.nil
 | _=>.any
def ev(O:Tm):Operand->AV
 | .tmp t=>O t
 | .const v=>RS v
 | .global g=>.ptr 1 g 0
 | .func f=>.fn f []
def PW(w:World)(M:Nat->Prop)(v:Value):bM w M (RS v) v:=by
 unfold RS;split<;>simp[bM]
structure RT(O:Tm)(S:St)(N:Nat)(a:Act)(w:World):Prop where
 defers:a.defers=[]
 size:a.tmps.size=N
 tm:∀t,bM w S.dom (O t) (a.tmps.getD t undef)
 st:fI w S
def RT.ev(h:RT O S N a w)(x:Operand):bM w S.dom (ev O x) (a.eval x):=by
 cases x with
 | tmp t=>exact h.tm t
 | const v=>exact PW _ _ v
 | global g=>simp only[Go.Proofs.YtdobfmlmenaajaaGreatDoor.ev,bM,d7];rfl
 | func f=>simp only[Go.Proofs.YtdobfmlmenaajaaGreatDoor.ev,bM];exact⟨[],rfl,by simp[a6]⟩
def RT.put(h:RT O S N a w)(g:dI S.dom S'.dom w w')(f:fI w' S'){d:Option Nat}(i:∀k,d=some k->k<N){x:AV}{v:Value}(j:bM w' S'.dom x v) :
  RT (O.put d x) S' N (a.put d v) w':=by
 have b:∀t,bM w' S'.dom (O t) (a.tmps.getD t undef):=fun t=>bM.grow h.st.noU g _ _ (h.tm t)
 cases d with
 | none=>rw[Tm.put_eq];exact⟨h.defers,h.size,b,f⟩
 | some d =>
  refine⟨h.defers,by simp[Act.put,h.size],fun t=>?_,f⟩
  have c:=i d rfl;simp only[Tm.put_eq,Act.put];by_cases e:t=d
  .subst e;have:(a.tmps.setIfInBounds t v).getD t undef=v:=by
    simp[Array.getD,h.size,c]
   rw[ah rfl,this];exact j
  .have:(a.tmps.setIfInBounds d v).getD t undef=a.tmps.getD t undef:=by
    simp only[cQ];rw[d5 (aj e)]
   rw[af e,this];exact b t
def Gk(op:BinOp)(t:TypeId)(x y:AV)(K:AV->Prop):Prop:=match x,y with
 | .int k a,.int k' b=>k=k'/\(match op with
  | .add=>K (.int k (k.wrap (a+b)))
  | .sub=>K (.int k (k.wrap (a-b)))
  | .mul=>K (.int k (k.wrap (a*b)))
  | .quo=>b≠0/\K (.int k (k.wrap (a.tdiv b)))
  | .rem=>b≠0/\K (.int k (a.tmod b))
  | .eql=>K (.bool (a==b))
  | .neq=>K (.bool (a != b))
  | .lss=>K (.bool (decide (a<b)))
  | .leq=>K (.bool (decide (a<=b)))
  | .gtr=>K (.bool (decide (b<a)))
  | .geq=>K (.bool (decide (b<=a)))
  | _=>False)
 | .bool a,.bool b=>t=4/\(match op with
  | .eql=>K (.bool (a==b))
  | .neq=>K (.bool (a != b))
  | _=>False)
 | .bset p,.bset q=>t=4/\op=.neq/\K (.bset (fun s=>∃a b,p a/\q b/\s=(a != b)))
 | .sl _ _ _ _,.nil=>(t=29/\op=.eql)/\K (.bool false)
 | .lst _ n _,.nil=>(t=29/\op=.eql/\0<n)/\K (.bool false)
 | .nil,.nil=>(t=29/\op=.eql)/\K (.bool true)
 | _,_=>False
def AS(h:Gk op ty x y K){w:World}{M:Nat->Prop}{vx vy:Value}(d:bM w M x vx)(e:bM w M y vy)(ox oy:Operand) :
  ∃z v,K z/\bM w M z v/\(do eqGuard op ty ox oy vx vy;binOp op ty vx vy:Sem Value).run ai w=.ok v w:=by
 have f:∀(w:World) (a:Option Addr) (n c n' c':Nat),(binOp .eql 29 (.slice a n c) (.slice none n' c')).run ai w=.ok (.bool a.isNone) w:=fun w a n c n' c'=>A9 w _ _ a n c n' c' underlying29;unfold Gk at h;split at h
 .rename_i k a k' b;obtain⟨rfl,h⟩:=h;simp only[bM]at d e;subst d e;split at h
  .exact⟨_,.int k (k.wrap (a+b)),h,by simp[bM],by simp[eqGuard,binOp,Op.intArith]⟩
  .exact⟨_,.int k (k.wrap (a-b)),h,by simp[bM],by simp[eqGuard,binOp,Op.intArith]⟩
  .exact⟨_,.int k (k.wrap (a*b)),h,by simp[bM],by simp[eqGuard,binOp,Op.intArith]⟩
  .exact⟨_,.int k (k.wrap (a.tdiv b)),h.2,by simp[bM],by simp[eqGuard,binOp,Op.intDiv,h.1]⟩
  .exact⟨_,.int k (a.tmod b),h.2,by simp[bM],by simp[eqGuard,binOp,Op.intDiv,h.1]⟩
  .exact⟨_,.bool (a==b),h,by simp[bM],by simp[eqGuard,binOp,Op.intCmp]⟩
  .exact⟨_,.bool (a != b),h,by simp[bM],by simp[eqGuard,binOp,Op.intCmp]⟩
  .exact⟨_,.bool (decide (a<b)),h,by simp[bM],by simp[eqGuard,binOp,Op.intCmp]⟩
  .exact⟨_,.bool (decide (a<=b)),h,by simp[bM],by simp[eqGuard,binOp,Op.intCmp]⟩
  .exact⟨_,.bool (decide (b<a)),h,by simp[bM],by simp[eqGuard,binOp,Op.intCmp]⟩
  .exact⟨_,.bool (decide (b<=a)),h,by simp[bM],by simp[eqGuard,binOp,Op.intCmp]⟩
  .exact h.elim
 .rename_i a b;obtain⟨rfl,h⟩:=h;simp only[bM]at d e;subst d e;have i:(underlying 4).run ai w=.ok .bool w:=by
   simp[underlying,UR]
  have g:(Op.equal 4 (.bool a) (.bool b)).run ai w=.ok (a==b) w:=by
   unfold Op.equal Op.maxDepth;rw[Op.equalIn];simp[i]
  split at h
  .exact⟨_,.bool (a==b),h,by simp[bM],by simp[eqGuard,binOp,g]⟩
  .exact⟨_,.bool (a != b),h,by simp[bM],by simp[eqGuard,binOp,g];cases a<;>cases b<;>rfl⟩
  .exact h.elim
 .rename_i p q;obtain⟨rfl,rfl,h⟩:=h;simp only[bM]at d e;obtain⟨a,rfl,l⟩:=d;obtain⟨b,rfl,j⟩:=e;have i:(underlying 4).run ai w=.ok .bool w:=by
   simp[underlying,UR]
  have g:(Op.equal 4 (.bool a) (.bool b)).run ai w=.ok (a==b) w:=by
   unfold Op.equal Op.maxDepth;rw[Op.equalIn];simp[i]
  exact⟨_,.bool (a != b),h,by simp only[bM];exact⟨_,rfl,a,b,l,j,rfl⟩,by simp[eqGuard,binOp,g];cases a<;>cases b<;>rfl⟩
 .obtain⟨⟨rfl,rfl⟩,h⟩:=h;simp only[bM]at d e;obtain⟨cap,cs,ty,fr,rfl,_⟩:=d;subst e;exact⟨_,.bool false,h,by simp[bM],by simp[eqGuard,f]⟩
 .obtain⟨⟨rfl,rfl,m⟩,h⟩:=h;simp only[bM]at d e;obtain⟨A,c,rfl,_,j⟩:=d;obtain⟨b,off,rfl,_⟩:=j m;subst e;exact⟨_,.bool false,h,by simp[bM],by simp[eqGuard,f]⟩
 .obtain⟨⟨rfl,rfl⟩,h⟩:=h;simp only[bM]at d e;subst d e;exact⟨_,.bool true,h,by simp[bM],by simp[eqGuard,f]⟩
 .exact h.elim

def fD:TypeId->Option (Nat×Nat)
 | 2=>some (1,1)|3=>some (1,1)|4=>some (1,1)|5=>some (1,1)|22=>some (1,1)|25=>some (1,1)|28=>some (1,1)|29=>some (1,1)
 | 34=>some (1,1)|41=>some (1,1)|48=>some (1,1)|52=>some (1,1)|59=>some (1,1)|97=>some (1,1)|146=>some (1,1)|158=>some (1,1)|192=>some (1,1)|216=>some (1,1)
 | 50=>some (2,1)|167=>some (2,2)|195=>some (2,2)|197=>some (2,7)
 | 24=>some (1,4)|27=>some (1,6)|107=>some (1,2)|160=>some (1,4)|183=>some (1,2)|202=>some (1,2)|238=>some (1,3)|239=>some (1,8)|218=>some (1,2)
 | _=>ab
def LN:TypeDesc->Bool
 | .struct _=>true
 | .array _ _=>true
 | _=>false
def MG(P:Program)(t es k:Nat):Bool:=match P.info? t,P.underlying t with
 | some i,some d=>i.size==es*k&&(if LN d then es*k != 1 else es==1&&k==1)
 | _,_=>false
def rZ{t:Nat}(h:fD t=some (es,k)):MG ai t es k=true/\(es=1∨es=2)/\0<k:=by
 unfold fD at h;split at h<;>first
  | (cases h;refine⟨by kernel_rfl,om,om⟩)
  | cases h
def zB{t:Nat}(h:MG ai t es k=true):∃i d,ai.info? t=some i/\i.size=es*k/\ai.underlying t=some d/\((LN d=true/\es*k≠1)∨(LN d=false/\es=1/\k=1)):=by
 unfold MG at h;split at h
 .rename_i i d c e;simp only[ay,oU]at h;refine⟨i,d,c,h.1,e,?_⟩;have a:=h.2;split at a
  .rename_i b;exact bW ⟨b,by simpa using a⟩
  .rename_i b;simp at a;exact bQ ⟨by simpa using b,a.1,a.2⟩
 .cases h
def eG(g:Nat->AV)(i:Nat):Nat->List AV
 | 0=>[]
 | k+1=>g i::eG g (i+1) k
def r9(h:one u):u.cells=#[u]:=by cases u<;>first|rfl|exact h.elim
def oT{off:Nat}{cs:Array Value}(h:w.heap[b]? = some (.cells cs ty fr)):w.cell? ⟨b,off,ab⟩=cs[off]?:=by
 simp[World.cell?,h]
def iU(b off k:Nat):(⟨b,off,ab⟩:Addr).add k=⟨b,off+k,ab⟩:=by
 unfold Addr.add;split<;>simp_all
theorem sM{w:World}{b:Nat}{cs:Array Value}{ty:TypeId}{fr:Nat×Nat}(h:w.heap[b]? = some (.cells cs ty fr))(off:Nat)(P:Program) :
  ∀(l:List Value) (i:Nat) (acc:Array Value),(∀j,j<l.length->cs[off+i+j]? = l[j]?)->(loadCellsFrom ⟨b,off,ab⟩ i l.length acc).run P w=.ok (acc++l.toArray) w
 | [],i,acc,_=>by simp[loadCellsFrom]
 | v::l,i,acc,a=>by
  have c:=a 0 sm
  simp only[cN,c9]at c;have ih:=sM h off P l (i+1) (acc.push v) (fun j d=>by
   have:=a (j+1) (by simp;omega)
   rw[cn]at this;rw[<-this];congr 1;omega)
  simp only[cA,loadCellsFrom];simp only[load,iU];simp[Sem.run,bind,Sem.bind,oT h,c];simpa using ih
def Ci(a:ai.underlying t=some d)(w:World):(isAgg t).run ai w=.ok (LN d) w:=by
 simp only[isAgg,ko,bO a,ix]
 cases d<;>rfl
def de(a:ai.info? t=some i)(w:World):(sizeOf t).run ai w=.ok i.size w:=by
 simp[sizeOf,typeInfo,a]
def xI{off t:Nat}{cs:Array Value}(h:w.heap[b]? = some (.cells cs ty fr))(e:fD t=some (es,k))(f:es*k≠1)
  (l:List Value) (g:l.length=es*k) (m:∀j,j<l.length->cs[off+j]? = l[j]?) :
  (Instr.loadAt t (.pointer (some ⟨b,off,ab⟩))).run ai w=.ok (.agg l.toArray) w:=by
 obtain⟨c,u,_⟩:=rZ e;obtain⟨i,d,n,o,p,a⟩:=zB c;have q:LN d=true:=a.elim (fun a=>a.1) (fun a=>by rw[a.2.1,a.2.2]at f;omega)
 have r:=sM h off ai l 0 #[] (fun j s=>by rw[cN];exact m j s)
 simp only[Instr.loadAt,Instr.sureAddr,pure_bind,loadVar,ko,Ci p,q,ix,aK,de n,loadCells];rw[o,<-g,r];simp
def r7{off t:Nat}{cs:Array Value}(h:w.heap[b]? = some (.cells cs ty fr))(e:fD t=some (es,1))(c:reads cs off es u) :
  (Instr.loadAt t (.pointer (some ⟨b,off,ab⟩))).run ai w=.ok u w:=by
 obtain⟨f,g,_⟩:=rZ e;rcases g with rfl|rfl
 .obtain⟨i,d,r,s,k,a⟩:=zB f;have l:LN d=false:=a.elim (fun a=>absurd rfl a.2) (fun a=>a.1);simp only[reads]at c;simp only[Instr.loadAt,Instr.sureAddr,pure_bind,loadVar,ko,Ci k,l,ix];simp[oT h,c.1]
 .simp only[reads]at c;obtain⟨x,y,rfl,m,n,o,p⟩:=c;exact xI h e om [x,y] rfl (fun j q=>by
   match j with
   | 0=>simpa using o
   | 1=>simpa using p
   | j+2=>simp at q;omega)
theorem oh{w:World}{M:Nat->Prop}{cs:Array Value}{es n:Nat}{g:Nat->AV}(b:∀j,j<n->∃u,reads cs (es*j) es u/\bM w M (g j) u) :
  ∀(k i:Nat),i+k<=n->∃vs:List Value,a6 w M (eG g i k) vs/\(vs.flatMap (fun u=>u.cells.toList)).length=es*k/\∀j,j<es*k->cs[es*i+j]? = (vs.flatMap (fun u=>u.cells.toList))[j]?
 | 0,i,_=>⟨[],by simp[eG,a6],sm,fun j b=>by simp at b⟩
 | k+1,i,o=>by
  obtain⟨u,c,f⟩:=b i om;obtain⟨vs,e,h,l⟩:=oh b k (i+1) om;have a:u.cells.toList.length=es/\∀j,j<es->cs[es*i+j]? = u.cells.toList[j]?:=by
   match es,c with
   | 1,c =>
    simp only[reads]at c;rw[r9 c.2];exact⟨rfl,fun j b=>by
     obtain rfl:j=0:=om
     simpa using c.1⟩
   | 2,c =>
    simp only[reads]at c;obtain⟨x,y,rfl,_,_,m,e⟩:=c;refine⟨rfl,fun j b=>?_⟩
    match j with
    | 0=>simpa [Value.cells]using m
    | 1=>simpa [Value.cells]using e
    | j+2=>omega
  refine⟨u::vs,by simp only[eG,a6];exact⟨f,e⟩,by simp only[dF,CS,a.1,h];rw[eA];omega,fun j b=>?_⟩
  simp only[dF];by_cases d:j<es
  .rw[eL (by rw[a.1];exact d)];exact a.2 j d
  .rw[ep (by rw[a.1];omega),a.1,<-l (j-es) (by rw[eA]at b;omega)]
   congr 1;rw[eA];omega
def pU(t:TypeId)(x:AV)(S:St)(K:AV->Prop):Prop:=match x with
 | .pat es y=>fD t=some (es,1)/\K y
 | .ptr es b i=>(match S b with
  | some X=>(match fD t with
   | some (es',k)=>es'=es/\X.es=es/\i+k<=X.n/\K (if k=1 then X.g i else .agg (eG X.g i k))
   | ab=>False)
  | ab=>False)
 | .fp b i f=>(match S b with
  | some X=>X.es=2/\i<X.n/\(match X.g i with
   | .big z=>if t=48/\f=1 then K (.mag z.natAbs)else if t=4/\f=0 then K (.bset (fun s=>sg s z.natAbs=z))else False
   | _=>False)
  | ab=>False)
 | _=>False
def rQ(h:pU t x S K){w:World}(I:fI w S){vx:Value}(o:bM w S.dom x vx) :
  ∃z v,K z/\bM w S.dom z v/\(Instr.loadAt t vx).run ai w=.ok v w:=by
 cases x with
 | pat es y =>
  simp only[pU]at h;simp only[bM]at o;obtain⟨b,off,u,rfl,_,_,⟨cs,ty,fr,d,a⟩,l⟩:=o;exact⟨_,u,h.2,l,r7 d h.1 a⟩
 | ptr es b i =>
  simp only[pU]at h
  cases m:S b with
  | none=>rw[m]at h;exact h.elim
  | some X =>
   rw[m]at h
   cases r:fD t with
   | none=>rw[r]at h;exact h.elim
   | some p =>
    obtain⟨es',k⟩:=p;rw[r]at h;obtain⟨rfl,rfl,N,B⟩:=h;simp only[bM]at o;subst o;obtain⟨cs,d,C,q,D⟩:=I b X m;by_cases s:k=1
    .subst s;obtain⟨u,a,l⟩:=q i om;rw[ah rfl]at B;exact⟨_,u,B,l,r7 d r a⟩
    .obtain⟨vs,O,J,P⟩:=oh q k i N;rw[af s]at B;have a:bM w S.dom (.agg (eG X.g i k)) (.agg (vs.flatMap (fun u=>u.cells.toList)).toArray):=by
      simp only[bM];exact⟨vs,rfl,O⟩
     refine⟨_,_,B,a,xI d r ?_ _ J (fun j q=>P j (by rw[<-J];exact q))⟩
     obtain⟨_,E,Q⟩:=rZ r;intro e;rcases E with L|L<;>rw[L]at e<;>omega
 | fp b i f =>
  simp only[pU]at h
  cases m:S b with
  | none=>rw[m]at h;exact h.elim
  | some X =>
   rw[m]at h;obtain⟨F,G,h⟩:=h;simp only[bM]at o;subst o;obtain⟨cs,d,C,q,D⟩:=I b X m;obtain⟨u,a,l⟩:=q i G;rw[F]at a
   cases R:X.g i<;>rw[R]at h l<;>try exact h.elim
   rename_i z;simp only[bM]at l;obtain⟨neg,A,n,c,xs,rfl,H,T,U,rfl⟩:=l;obtain⟨x,y,E,ox,oy,V,W⟩:=a
   cases E
   have M:(sg neg (aZ xs)).natAbs=aZ xs:=by cases neg<;>simp[sg]
   simp only at h;split at h
   .rename_i e;obtain⟨rfl,rfl⟩:=e;refine⟨_,.slice A n c,h,?_,r7 d (rfl:fD 48=some (1,1)) ⟨W,oy⟩⟩;simp only[bM];exact⟨false,A,n,c,xs,rfl,H,T,U,by rw[M];simp[sg]⟩
   .split at h
    .rename_i e;obtain⟨rfl,rfl⟩:=e;exact⟨_,.bool neg,h,by simp only[bM];exact⟨neg,rfl,by rw[M]⟩,r7 d (rfl:fD 4=some (1,1)) ⟨V,ox⟩⟩
    .exact h.elim
 | _=>exact h.elim

def gj(w:World)(b:Nat)(cs:Array Value)(ty:TypeId):World:={ w with heap:=w.heap.setIfInBounds b (.cells cs ty (0,0)) }
def jP(a:b<w.heap.size)(cs:Array Value)(ty:TypeId)(k:Nat):(gj w b cs ty).heap[k]? = if k=b then some (.cells cs ty (0,0))else w.heap[k]?:=by
 simp only[gj];by_cases e:k=b
 .subst e;simp[a]
 .rw[af e,d5 (aj e)]
def C2(w:World)(b:Nat)(cs:Array Value)(ty:TypeId):(gj w b cs ty).heap.size=w.heap.size:=by simp[gj]
def C3{cs:Array Value}(h:w.heap[b]? = some (.cells cs ty (0,0))):gj w b cs ty=w:=by
 unfold gj;have:w.heap.setIfInBounds b (.cells cs ty (0,0))=w.heap:=by
  apply nj;intro i;by_cases e:i=b
  .subst e;rw[iI (gJ h),h]
  .rw[d5 (aj e)]
 rw[this]
def yh(w:World)(b:Nat)(c a:Array Value)(ty:TypeId):gj (gj w b c ty) b a ty=gj w b a ty:=by
 simp[gj]
def yk{off:Nat}{cs:Array Value}(h:w.heap[b]? = some (.cells cs ty (0,0)))(u:Value):w.setCell ⟨b,off,ab⟩ u=gj w b (cs.setIfInBounds off u) ty:=by
 unfold World.setCell gj;congr 1;apply nj;intro i;rw[Uk];by_cases e:b=i
 .subst e;rw[ah rfl,h,iI (gJ h)];rfl
 .rw[af e,d5 e]
def fA(cs:Array Value)(o:Nat):List Value->Array Value
 | []=>cs
 | v::l=>fA (cs.setIfInBounds o v) (o+1) l
theorem iJ:∀(l:List Value) (cs:Array Value) (o:Nat),(fA cs o l).size=cs.size
 | [],_,_=>rfl
 | v::l,cs,o=>by simp[fA,iJ l]
theorem iS:∀(l:List Value) (cs:Array Value) (o j:Nat),o+l.length<=cs.size->(fA cs o l)[j]? = if o<=j/\j<o+l.length then l[j-o]? else cs[j]?
 | [],cs,o,j,_=>by rw[af (by simp only[fY];omega)];rfl
 | v::l,cs,o,j,h=>by
  simp only[cA]at h;rw[fA,iS l _ (o+1) j (by simp;omega)]
  by_cases e:j=o
  .subst e;rw[af om,ah sm,iI om];simp
  .rw[d5 (aj e)];by_cases a:o+1<=j/\j<o+1+l.length
   .rw[ah a,ah (by simp;omega),(om:j-o=(j-(o+1))+1),cn]
   .rw[af a,af (by simp;omega)]
theorem kz(P:Program){b off:Nat}{ty:TypeId}:∀(l:List Value) (w:World) (cs:Array Value) (i:Nat),w.heap[b]? = some (.cells cs ty (0,0))->off+i+l.length<=cs.size->(∀u∈l,one u) ->
  (storeCells ⟨b,off,ab⟩ l i).run P w=.ok () (gj w b (fA cs (off+i) l) ty)
 | [],w,cs,i,h,_,_=>by simp[storeCells,fA,C3 h]
 | v::l,w,cs,i,h,f,e=>by
  simp only[cA]at f;have g:=e v (eU ..);have hcell:w.cell? ⟨b,off+i,ab⟩=cs[off+i]?:=oT h;have a:cs[off+i]? = some cs[off+i]:=cF om;have c:w.frozen? ⟨b,off+i,ab⟩=false:=by simp[World.frozen?,h]
  have d:(store ⟨b,off+i,ab⟩ v).run P w=.ok () (gj w b (cs.setIfInBounds (off+i) v) ty):=by
   cases v<;>first|exact g.elim|simp[store,Sem.run,hcell,a,c,yk h]
  have ih:=kz P (b:=b) (off:=off) (ty:=ty) l (gj w b (cs.setIfInBounds (off+i) v) ty) (cs.setIfInBounds (off+i) v) (i+1)
   (by rw[jP (gJ h),ah rfl]) (by simp;omega) (fun u j=>e u (d9 _ j))
  simp only[storeCells,iU,ko,d,ix,ih,yh,fA];rfl
def eO:Nat->AV->Prop
 | 1,.int k _=>k≠.u32
 | 1,.bool _=>True
 | 1,.nil=>True
 | 1,.sl ..=>True
 | 1,.ptr ..=>True
 | 1,.lst ..=>True
 | 1,.pat ..=>True
 | 1,.fn ..=>True
 | 1,.nfn=>True
 | 1,.mfn ..=>True
 | 2,.big _=>True
 | _,_=>False
def Dj(h:eO es y)(a:bM w M y v) :
  (es=1/\one v/\mc v)∨(es=2/\∃p q,v=.agg #[p,q]/\one p/\one q/\mc p/\mc q):=by
 match es,y,h,a with
 | 1,.int k n,h,a =>
  simp only[bM]at a;subst a;refine bW ⟨rfl,trivial,?_⟩
  cases k<;>first|trivial|exact absurd rfl h
 | 1,.bool _,h,a=>simp only[bM]at a;subst a;exact bW ⟨rfl,trivial,trivial⟩
 | 1,.nil,h,a=>simp only[bM]at a;subst a;exact bW ⟨rfl,trivial,trivial⟩
 | 1,.sl ..,h,a=>simp only[bM]at a;obtain⟨_,_,_,_,rfl,_⟩:=a;exact bW ⟨rfl,trivial,trivial⟩
 | 1,.ptr ..,h,a=>simp only[bM]at a;subst a;exact bW ⟨rfl,trivial,trivial⟩
 | 1,.lst ..,h,a=>simp only[bM]at a;obtain⟨_,_,rfl,_⟩:=a;exact bW ⟨rfl,trivial,trivial⟩
 | 1,.pat ..,h,a=>simp only[bM]at a;obtain⟨_,_,_,rfl,_⟩:=a;exact bW ⟨rfl,trivial,trivial⟩
 | 1,.fn ..,h,a=>simp only[bM]at a;obtain⟨_,rfl,_⟩:=a;exact bW ⟨rfl,trivial,trivial⟩
 | 1,.nfn,h,a=>simp only[bM]at a;subst a;exact bW ⟨rfl,trivial,trivial⟩
 | 1,.mfn ..,h,a=>simp only[bM]at a;obtain⟨_,rfl,_⟩:=a;exact bW ⟨rfl,trivial,trivial⟩
 | 2,.big z,h,a =>
  simp only[bM]at a;obtain⟨neg,A,n,c,xs,rfl,_⟩:=a;exact bQ ⟨rfl,_,_,rfl,trivial,trivial,trivial,trivial⟩
def rY(h:eO es y)(e:bM w M y v) :
  v.cells.size=es/\(∀u∈v.cells.toList,one u/\mc u)/\∀(cs:Array Value) (o:Nat),(∀j,j<es->cs[o+j]? = v.cells[j]?)->reads cs o es v:=by
 rcases Dj h e with⟨rfl,a,c⟩|⟨rfl,p,q,rfl,a,c,f,g⟩
 .rw[r9 a];refine⟨rfl,fun u b=>by simp at b;subst b;exact⟨a,c⟩,fun cs o d=>?_⟩
  have:=d 0 om;simp only[reads];exact⟨by simpa using this,a⟩
 .refine⟨rfl,fun u b=>?_,fun cs o d=>?_⟩
  .simp[Value.cells]at b;rcases b with rfl|rfl
   .exact⟨a,f⟩
   .exact⟨c,g⟩
  .simp only[reads];exact⟨p,q,rfl,a,c,by simpa [Value.cells]using d 0 om,by simpa [Value.cells]using d 1 om⟩
def Pp(h:S b≠ab):(S.upd b X).dom=S.dom:=by
 funext k;simp only[St.dom,St.upd];by_cases e:k=b
 .subst e;simp[h]
 .simp[e]
def fI.write(i:fI w S){b:Nat}{X X':ft}(r:S b=some X){cs cs':Array Value}(s:w.heap[b]? = some (.cells cs X.ty (0,0)))(l:cs'.size=cs.size)
  (t:X'.ty=X.ty) (v:X'.es*X'.n<=cs'.size) (x:∀j,j<X'.n->∃u,reads cs' (X'.es*j) X'.es u/\bM w S.dom (X'.g j) u) (z:∀(k:Nat) (y:Value),cs'[k]? = some y->mc y) :
  fI (gj w b cs' X.ty) (S.upd b X')/\dI S.dom (S.upd b X').dom w (gj w b cs' X.ty):=by
 have a:=gJ s;have A:(S.upd b X').dom=S.dom:=Pp (by rw[r];simp)
 have m:dI S.dom (S.upd b X').dom w (gj w b cs' X.ty):=by
  rw[A];refine⟨rfl,rfl,rfl,by rw[C2];exact ae _,fun k G B=>?_,fun k c ty fr o=>?_,fun _ _ h=>h⟩
  .rw[jP a,af];intro e;subst e;exact B (by simp[St.dom,r])
  .rw[jP a];by_cases e:k=b
   .subst e;rw[s]at o;cases o;exact⟨cs',by rw[ah rfl],l⟩
   .exact⟨c,by rw[af e];exact o,rfl⟩
 refine⟨fun k Y f=>?_,m⟩;simp only[St.upd]at f;by_cases e:k=b
 .subst e;rw[ah rfl]at f
  cases f
  refine⟨cs',by rw[jP a,ah rfl,t],v,fun j d=>?_,z⟩
  obtain⟨u,p,q⟩:=x j d;exact⟨u,p,bM.grow i.noU m _ _ q⟩
 .rw[af e]at f;obtain⟨c,p,q,C,D⟩:=i k Y f;refine⟨c,by rw[jP a,af e];exact p,q,fun j d=>?_,D⟩
  obtain⟨u,E,F⟩:=C j d;exact⟨u,E,bM.grow i.noU m _ _ F⟩
def fI.new(f:fI w S){X:ft}{cs:Array Value}(p:X.es*X.n<=cs.size)
  (q:∀j,j<X.n->∃u,reads cs (X.es*j) X.es u/\bM w S.dom (X.g j) u) (r:∀(k:Nat) (y:Value),cs[k]? = some y->mc y) :
  S w.heap.size=ab/\fI (w.alloc (.cells cs X.ty)) (S.upd w.heap.size X)/\dI S.dom (S.upd w.heap.size X).dom w (w.alloc (.cells cs X.ty)):=by
 have hnone:S w.heap.size=ab:=by
  cases e:S w.heap.size with
  | none=>rfl
  | some Y =>
   obtain⟨c,b,_⟩:=f _ Y e;exact absurd (gJ b) (cT _)
 have h:∀k,(w.alloc (.cells cs X.ty)).heap[k]? = if k=w.heap.size then some (.cells cs X.ty (0,0))else w.heap[k]?:=by
  intro k;show(w.heap.push _)[k]? = _;rw[Array.getElem?_push]
 have i:dI S.dom (S.upd w.heap.size X).dom w (w.alloc (.cells cs X.ty)):=by
  refine⟨rfl,rfl,rfl,sm,fun k s _=>?_,fun k c ty fr o=>⟨c,?_,rfl⟩,fun k s l=>?_⟩
  .rw[h,af om]
  .rw[h,af (by have:=gJ o;omega)];exact o
  .simp only[St.dom,St.upd]at l;rw[af om]at l;exact l
 refine⟨hnone,fun k Y d=>?_,i⟩;simp only[St.upd]at d;by_cases e:k=w.heap.size
 .rw[ah e]at d
  cases d
  refine⟨cs,by rw[h,ah e],p,fun j a=>?_,r⟩
  obtain⟨u,b,m⟩:=q j a;exact⟨u,b,bM.grow f.noU i _ _ m⟩
 .rw[af e]at d;obtain⟨c,b,m,t,v⟩:=f k Y d;refine⟨c,by rw[h,af e];exact b,m,fun j a=>?_,v⟩
  obtain⟨u,x,z⟩:=t j a;exact⟨u,x,bM.grow f.noU i _ _ z⟩

def Eu(s:Sem Value)(w:World)(S:St)(K:AV->St->Prop):Prop :=
 ∃z v w' S',K z S'/\bM w' S'.dom z v/\fI w' S'/\dI S.dom S'.dom w w'/\s.run ai w=.ok v w'
def bR(g:Nat->AV)(i:Nat)(y:AV):Nat->AV:=fun j=>if j=i then y else g j
def ja(g:Nat->AV)(i:Nat)(l:List AV):Nat->AV:=fun j=>if i<=j/\j<i+l.length then l.getD (j-i) .any else g j
def qE(t:TypeId)(x y:AV)(S:St)(K:St->Prop):Prop:=match x with
 | .ptr es b i=>(match S b with
  | some X=>(match fD t with
   | some (es',k)=>es'=es/\X.es=es/\i+k<=X.n/\(if k=1 then eO es y/\K (S.upd b { X with g:=bR X.g i y })else(match y with
    | .agg l=>l.length=k/\(∀z∈l,eO es z)/\K (S.upd b { X with g:=ja X.g i l })
    | _=>False))
   | ab=>False)
  | ab=>False)
 | _=>False
theorem iQ{w:World}{M:Nat->Prop}{es:Nat}:∀(l:List AV) (vs:List Value),a6 w M l vs->(∀z∈l,eO es z) ->
  vs.length=l.length/\(vs.flatMap (fun u=>u.cells.toList)).length=es*l.length/\(∀u∈vs.flatMap (fun u=>u.cells.toList),one u/\mc u) /\
  ∀j,j<l.length->∃u,bM w M (l.getD j .any) u/\∀(cs:Array Value) (o:Nat),(∀q,q<es*l.length->cs[o+q]? = (vs.flatMap (fun u=>u.cells.toList))[q]?)->reads cs (o+es*j) es u
 | [],[],_,_=>⟨rfl,sm,sm,fun j e=>by simp at e⟩
 | a::l,v::vs,d,k=>by
  simp only[a6]at d;have n:=k a (eU ..);obtain⟨p,r,s⟩:=rY n d.1;obtain⟨t,x,y,A⟩:=iQ l vs d.2 (fun z B=>k z (d9 _ B));have c:v.cells.toList.length=es:=by simpa using p
  refine⟨by simp[t],by simp only[dF,CS,c,x,cA];rw[eA];omega,fun u b=>?_,fun j e=>?_⟩
  .simp only[dF,Kk]at b;rcases b with b|b
   .exact r u b
   .exact y u b
  .simp only[cA]at e
   cases j with
   | zero =>
    refine⟨v,by simpa using d.1,fun cs o f=>?_⟩
    rw[d7,cN];refine s cs o (fun q C=>?_);rw[f q (by rw[cA,eA];omega),dF,eL om]
    simp
   | succ j =>
    obtain⟨u,g,i⟩:=A j om;refine⟨u,by simpa using g,fun cs o f=>?_⟩
    have:=i cs (o+es) (fun q C=>by
     have m:=f (es+q) (by rw[cA,eA];omega)
     rw[dF,ep om,c,(om:es+q-es=q)]at m
     rw[<-m];congr 1;omega)
    rw[eA,(om:o+(es*j+es)=o+es+es*j)]
    exact this
 | [],_::_,h,_=>by simp[a6]at h
 | _::_,[],h,_=>by simp[a6]at h
def lg{cs:Array Value}{o:Nat}(h:reads cs o es u)(hsame:∀q,q<es->cs'[o+q]? = cs[o+q]?):reads cs' o es u:=by
 match es,h with
 | 1,h=>simp only[reads]at h ⊢;have:=hsame 0 om;simp only[cN]at this;exact⟨by rw[this];exact h.1,h.2⟩
 | 2,h =>
  simp only[reads]at h ⊢;obtain⟨x,y,e,b,c,d,f⟩:=h;have a:=hsame 0 om;have g:=hsame 1 om;simp only[cN]at a;exact⟨x,y,e,b,c,by rw[a];exact d,by rw[g];exact f⟩
def rd(t:fI w S){b:Nat}{X:ft}(v:S b=some X)(l:List AV)(vs:List Value)(B:a6 w S.dom l vs)(C:∀z∈l,eO X.es z)(i:Nat)(D:i+l.length<=X.n) :
  ∃cs,w.heap[b]? = some (.cells cs X.ty (0,0))/\X.es*i+(vs.flatMap (fun u=>u.cells.toList)).length<=cs.size/\(∀u∈vs.flatMap (fun u=>u.cells.toList),one u) /\
   fI (gj w b (fA cs (X.es*i) (vs.flatMap (fun u=>u.cells.toList))) X.ty) (S.upd b { X with g:=ja X.g i l }) /\
   dI S.dom (S.upd b { X with g:=ja X.g i l }).dom w (gj w b (fA cs (X.es*i) (vs.flatMap (fun u=>u.cells.toList))) X.ty):=by
 obtain⟨cs,x,c,E,f⟩:=t b X v;obtain⟨H,m,A,F⟩:=iQ l vs B C;have a:X.es*i+(vs.flatMap (fun u=>u.cells.toList)).length<=cs.size:=by
  rw[m,<-cj];exact a9 (aL _ D) c
 refine⟨cs,x,a,fun u f=>(A u f).1,?_⟩;refine fI.write t v x (iJ _ _ _) rfl (by rw[iJ];exact c) (fun j o=>?_) (fun k y e=>?_)
 .show ∃u,reads _ (X.es*j) X.es u/\bM w S.dom (ja X.g i l j) u;unfold ja;by_cases d:i<=j/\j<i+l.length
  .rw[ah d];obtain⟨u,p,r⟩:=F (j-i) om;refine⟨u,?_,p⟩;have:=r (fA cs (X.es*i) (vs.flatMap (fun u=>u.cells.toList))) (X.es*i) (fun q G=>by
    rw[iS _ _ _ _ a,ah (by rw[m];omega)];congr 1;omega)
   rw[<-cj,(om:i+(j-i)=j)]at this
   exact this
  .rw[af d];obtain⟨u,p,r⟩:=E j o;refine⟨u,lg p (fun q G=>?_),r⟩;rw[iS _ _ _ _ a,af];rw[m];intro I;have s:j<i∨i+l.length<=j:=om
   rcases s with h|h
   .have:X.es*(j+1)<=X.es*i:=aL _ h;rw[eA]at this;omega
   .have:X.es*(i+l.length)<=X.es*j:=aL _ h;rw[cj]at this;omega
 .rw[iS _ _ _ _ a]at e;split at e
  .exact(A y (fT e)).2
  .exact f k y e
def KR(g:Nat->AV)(i:Nat)(y:AV):ja g i [y]=bR g i y:=by
 funext j;simp only[ja,bR,cA,fY];by_cases e:j=i
 .subst e;rw[ah om,ah rfl];simp
 .rw[af om,af e]
def xH{off t:Nat}{cs:Array Value}(h:w.heap[b]? = some (.cells cs ty (0,0)))(g:fD t=some (es,k))(v:Value)(j:v.cells.size=es*k)
  (a:off+v.cells.size<=cs.size) (l:∀u∈v.cells.toList,one u) :
  (Instr.storeAt t (.pointer (some ⟨b,off,ab⟩)) v).run ai w=.ok () (gj w b (fA cs off v.cells.toList) ty):=by
 obtain⟨c,_,_⟩:=rZ g;obtain⟨i,d,m,n,o,p⟩:=zB c;have f:=kz ai (b:=b) (off:=off) (ty:=ty) v.cells.toList w cs 0 h (by simpa using a) l
 rw[cN]at f;have e:¬(v.cells.size≠i.size):=by rw[n,j];simp
 simp only[Instr.storeAt,Instr.sureAddr,pure_bind,storeVar,ko,de m,ix];rw[af e];simp[f]
def Ea{K:St->Prop}(h:qE t x y S K){w:World}(r:fI w S){vx vy:Value}(s:bM w S.dom x vx)(m:bM w S.dom y vy) :
  ∃w' S',K S'/\fI w' S'/\dI S.dom S'.dom w w'/\(Instr.storeAt t vx vy).run ai w=.ok () w':=by
 cases x with
 | ptr es b i =>
  simp only[qE]at h
  cases n:S b with
  | none=>rw[n]at h;exact h.elim
  | some X =>
   rw[n]at h
   cases o:fD t with
   | none=>rw[o]at h;exact h.elim
   | some p =>
    obtain⟨es',k⟩:=p;rw[o]at h;obtain⟨rfl,rfl,v,c⟩:=h;simp only[bM]at s;subst s;by_cases d:k=1
    .subst d;rw[ah rfl]at c;obtain⟨cs,q,a,e,f,g⟩:=rd r n [y] [vy] (by simp only[a6];exact⟨m,trivial⟩) (fun z A=>by simp at A;subst A;exact c.1) i (by simpa using v)
     simp only[dF,GN,xa]at a e f g;rw[KR]at f g;refine⟨_,_,c.2,f,g,?_⟩;obtain⟨E,_,_⟩:=rY c.1 m;exact xH q o vy (by rw[E,yU]) (by simpa using a) e
    .rw[af d]at c
     cases y with
     | agg l =>
      simp only at c;obtain⟨B,j,c⟩:=c;simp only[bM]at m;obtain⟨vs,rfl,C⟩:=m;obtain⟨cs,q,a,e,f,g⟩:=rd r n l vs C j i (by rw[B];exact v)
      refine⟨_,_,c,f,g,?_⟩;obtain⟨_,D,_,_⟩:=iQ l vs C j;generalize vs.flatMap (fun u=>u.cells.toList)=fl at a e D ⊢;exact xH (off:=X.es*i) q o (.agg fl.toArray) (by show fl.toArray.size=_;rw[ct,D,B]) (by show _+fl.toArray.size<=_;rw[ct];exact a) e
     | _=>exact c.elim
 | _=>exact h.elim

def eV.zero(w:World):eV w w.heap.size (.agg #[.bool false,.slice ab 0 0]) 0 :=
 ⟨false,ab,0,0,[],rfl,ae _,⟨rfl,by simp[nH],fun h=>absurd h om⟩,by intro x a;simp at a,by simp[aZ,sg]⟩
def gM:TypeId->Option (Nat×AV×Value)
 | 2=>some (1,.int .i64 0,.int .i64 0)
 | 3=>some (1,.int .i64 0,.int .i64 0)
 | 4=>some (1,.bool false,.bool false)
 | 28=>some (1,.nil,.slice ab 0 0)
 | 29=>some (1,.nil,.slice ab 0 0)
 | 52=>some (1,.nil,.slice ab 0 0)
 | 59=>some (1,.nil,.slice ab 0 0)
 | 50=>some (2,.big 0,.agg #[.bool false,.slice ab 0 0])
 | _=>ab
def mM(P:Program)(t:TypeId):Option (Value×Nat×Nat):=(P.info? t).bind fun i=>i.zero.map fun z=>(z,i.size,i.bytes)
def py{t:Nat}(h:gM t=some (es,x,z)):∃i,ai.info? t=some i/\i.zero=some z/\i.size=es/\i.bytes<=32/\0<es/\z.cells.size=es/\eO es x/\∀w M,bM w M x z:=by
 have key:∀(z':Value) (s b:Nat),mM ai t=some (z',s,b)->b<=32->∃i,ai.info? t=some i/\i.zero=some z'/\i.size=s/\i.bytes<=32:=by
  intro z' s b f j;unfold mM at f
  cases g:ai.info? t with
  | none=>rw[g]at f;simp at f
  | some i =>
   rw[g]at f;simp only[dJ,cW,il]at f;obtain⟨z2,a,c,d,e⟩:=f;exact⟨i,rfl,by rw[a,c],d,om⟩
 unfold gM at h;split at h
 .cases h;obtain⟨i,a,c,d,e⟩:=key (.int .i64 0) 1 8 kr om;exact⟨i,a,c,d,e,om,rfl,by simp[eO],fun w M=>by simp[bM]⟩
 .cases h;obtain⟨i,a,c,d,e⟩:=key (.int .i64 0) 1 8 kr om;exact⟨i,a,c,d,e,om,rfl,by simp[eO],fun w M=>by simp[bM]⟩
 .cases h;obtain⟨i,a,c,d,e⟩:=key (.bool false) 1 1 kr om;exact⟨i,a,c,d,e,om,rfl,by simp[eO],fun w M=>by simp[bM]⟩
 .cases h;obtain⟨i,a,c,d,e⟩:=key (.slice ab 0 0) 1 24 kr om;exact⟨i,a,c,d,e,om,rfl,by simp[eO],fun w M=>by simp[bM]⟩
 .cases h;obtain⟨i,a,c,d,e⟩:=key (.slice ab 0 0) 1 24 kr om;exact⟨i,a,c,d,e,om,rfl,by simp[eO],fun w M=>by simp[bM]⟩
 .cases h;obtain⟨i,a,c,d,e⟩:=key (.slice ab 0 0) 1 24 kr om;exact⟨i,a,c,d,e,om,rfl,by simp[eO],fun w M=>by simp[bM]⟩
 .cases h;obtain⟨i,a,c,d,e⟩:=key (.slice ab 0 0) 1 24 kr om;exact⟨i,a,c,d,e,om,rfl,by simp[eO],fun w M=>by simp[bM]⟩
 .cases h;obtain⟨i,a,c,d,e⟩:=key (.agg #[.bool false,.slice ab 0 0]) 2 32 kr om;exact⟨i,a,c,d,e,om,rfl,by simp[eO],fun w M=>by simp only[bM];exact eV.zero w⟩
 .cases h
def mp(c:fI w S){es:Nat}(t:TypeId)(l:List AV)(vs:List Value)(d:a6 w S.dom l vs)(e:∀z∈l,eO es z) :
  S w.heap.size=ab/\fI (w.alloc (.cells (vs.flatMap (fun u=>u.cells.toList)).toArray t)) (S.upd w.heap.size ⟨t,es,l.length,fun j=>l.getD j .any⟩) /\
   dI S.dom (S.upd w.heap.size ⟨t,es,l.length,fun j=>l.getD j .any⟩).dom w (w.alloc (.cells (vs.flatMap (fun u=>u.cells.toList)).toArray t))/\(vs.flatMap (fun u=>u.cells.toList)).length=es*l.length:=by
 obtain⟨n,a,f,g⟩:=iQ l vs d e;have:=fI.new c (X:=⟨t,es,l.length,fun j=>l.getD j .any⟩) (cs:=(vs.flatMap (fun u=>u.cells.toList)).toArray) (by simp only[ct];rw[a];exact ae _) (fun j h=>by
   obtain⟨u,i,m⟩:=g j h;refine⟨u,?_,i⟩;have:=m (vs.flatMap (fun u=>u.cells.toList)).toArray 0 (fun q _=>by simp)
   simpa using this) (fun k y b=>by
   rw[fN]at b;exact(f y (fT b)).2)
 exact⟨this.1,this.2.1,this.2.2,a⟩
theorem kI{w:World}{M:Nat->Prop}{x:AV}{v:Value}(h:bM w M x v):∀n,a6 w M (bZ n x) (bZ n v)
 | 0=>by simp[a6]
 | n+1=>by simp only[kt,a6];exact⟨h,kI h n⟩
def fI.reg{Y:ft}(h:fI w (S.upd b X))(l:Y.ty=X.ty)(d:Y.es=X.es)(f:Y.n=X.n)(m:∀j,j<X.n->Y.g j=X.g j):fI w (S.upd b Y)/\(S.upd b Y).dom=(S.upd b X).dom:=by
 have i:(S.upd b Y).dom=(S.upd b X).dom:=by
  funext k;simp only[St.dom,St.upd];by_cases e:k=b<;>simp[e]
 refine⟨fun k Z a=>?_,i⟩;rw[i];simp only[St.upd]at a;by_cases e:k=b
 .rw[ah e]at a
  cases a
  obtain⟨cs,o,p,q,r⟩:=h k X (by simp[St.upd,e])
  refine⟨cs,by rw[l];exact o,by rw[d,f];exact p,fun j c=>?_,r⟩
  rw[f]at c;obtain⟨u,s,t⟩:=q j c;rw[d,m j c];exact⟨u,s,t⟩
 .rw[af e]at a;exact h k Z (by simp[St.upd,e,a])
def Ak{n:Nat}(h:j<n)(x d:AV):(bZ n x).getD j d=x:=by simp[cS,h]
def ns(t:TypeId)(S:St)(K:AV->St->Prop):Prop:=match gM t with
 | some (es,x,_)=>∀b,S b=ab->K (.ptr es b 0) (S.upd b ⟨t,es,1,fun _=>x⟩)
 | ab=>(match t with
  | 167=>∀b,S b=ab->K (.ptr 2 b 0) (S.upd b ⟨167,2,2,fun _=>.big 0⟩)
  | 197=>∀b,S b=ab->K (.ptr 2 b 0) (S.upd b ⟨197,2,7,fun _=>.big 0⟩)
  | 218=>∀b,S b=ab->K (.ptr 1 b 0) (S.upd b ⟨218,1,2,fun j=>if j=0 then .nil else .int .i64 0⟩)
  | 202=>∀b,S b=ab->K (.ptr 1 b 0) (S.upd b ⟨202,1,2,fun _=>.int .u64 0⟩)
  | _=>False)
def Cj(a:ai.info? t=some i)(b:i.zero=some z)(w:World) :
  (Instr.alloc t true (.tuple #[])).run ai w=.ok (.pointer (some ⟨w.heap.size,0,ab⟩)) (w.alloc (.cells z.cells t)):=by
 simp[Instr.alloc,zeroValue,typeInfo,a,b,newVar,newRow]
def oD(a:fI w S){t es:Nat}(l:List AV)(vs:List Value){i:TypeInfo}{z:Value}(c:ai.info? t=some i)(d:i.zero=some z)(e:z.cells=(vs.flatMap (fun u=>u.cells.toList)).toArray)
  (f:a6 w S.dom l vs) (h:∀y∈l,eO es y) (Y:ft) (k:Y.ty=t) (m:Y.es=es) (o:Y.n=l.length) (p:∀j,j<l.length->Y.g j=l.getD j .any) {K:AV->St->Prop} (q:∀b,S b=ab->K (.ptr es b 0) (S.upd b Y)) :
  Eu (Instr.alloc t true (.tuple #[])) w S K:=by
 obtain⟨r,s,v,_⟩:=mp a t l vs f h;obtain⟨x,A⟩:=fI.reg s (Y:=Y) k m o p;refine⟨_,.pointer (some ⟨w.heap.size,0,ab⟩),_,_,q _ r,by simp[bM],x,by rw[A];exact v,?_⟩
 rw[Cj c d,e]
def Eg{K:AV->St->Prop}(h:ns t S K){w:World}(g:fI w S):Eu (Instr.alloc t true (.tuple #[])) w S K:=by
 have key:∀(z':Value) (s b:Nat),mM ai t=some (z',s,b)->∃i,ai.info? t=some i/\i.zero=some z':=by
  intro z' s b f;unfold mM at f
  cases l:ai.info? t with
  | none=>rw[l]at f;simp at f
  | some i =>
   rw[l]at f;simp only[dJ,cW,il]at f;obtain⟨z2,d,e,m,n⟩:=f;exact⟨i,rfl,by rw[d,e]⟩
 unfold ns at h
 cases k:gM t with
 | some p =>
  obtain⟨es,x,z⟩:=p;rw[k]at h;obtain⟨i,d,e,m,n,r,u,o,q⟩:=py k;exact oD g [x] [z] d e sm (by simp only[a6];exact⟨q _ _,trivial⟩) (fun y a=>by simp at a;subst a;exact o) ⟨t,es,1,fun _=>x⟩ rfl rfl rfl (fun j c=>by simp at c;subst c;rfl) h
 | none =>
  rw[k]at h;have zb:∀M,bM w M (.big 0) (.agg #[.bool false,.slice ab 0 0]):=fun M=>by simp only[bM];exact eV.zero w
  simp only at h;split at h
  .obtain⟨i,d,e⟩:=key (.agg #[.bool false,.slice ab 0 0,.bool false,.slice ab 0 0]) 4 64 kr
   exact oD g (bZ 2 (.big 0)) (bZ 2 (.agg #[.bool false,.slice ab 0 0])) d e rfl (kI (zb _) 2) (fun y a=>by rw[gN a];simp[eO]) ⟨167,2,2,fun _=>.big 0⟩ rfl rfl rfl
    (fun j c=>(Ak (by rw[lv]at c;exact c) _ _).symm) h
  .obtain⟨i,d,e⟩:=key (.agg (bZ 7 [.bool false,.slice ab 0 0]).flatten.toArray) 14 224 kr
   exact oD g (bZ 7 (.big 0)) (bZ 7 (.agg #[.bool false,.slice ab 0 0])) d e rfl (kI (zb _) 7) (fun y a=>by rw[gN a];simp[eO]) ⟨197,2,7,fun _=>.big 0⟩ rfl rfl rfl
    (fun j c=>(Ak (by rw[lv]at c;exact c) _ _).symm) h
  .obtain⟨i,d,e⟩:=key (.agg #[.slice ab 0 0,.int .i64 0]) 2 32 kr
   exact oD g [.nil,.int .i64 0] [.slice ab 0 0,.int .i64 0] d e rfl (by simp[a6,bM]) (fun y a=>by simp at a;rcases a with rfl|rfl<;>simp[eO]) ⟨218,1,2,fun j=>if j=0 then .nil else .int .i64 0⟩ rfl rfl rfl
    (fun j c=>by match j with
     | 0=>rfl
     | 1=>rfl
     | j+2=>exact absurd c (by simp only[cA,fY];omega)) h
  .obtain⟨i,d,e⟩:=key (.agg #[.int .u64 0,.int .u64 0]) 2 16 kr
   exact oD g [.int .u64 0,.int .u64 0] [.int .u64 0,.int .u64 0] d e rfl (by simp[a6,bM]) (fun y a=>by simp at a;subst a;simp[eO]) ⟨202,1,2,fun _=>.int .u64 0⟩ rfl rfl rfl
    (fun j c=>by match j with
     | 0=>rfl
     | 1=>rfl
     | j+2=>exact absurd c (by simp only[cA,fY];omega)) h
  .exact h.elim

def kH(t:TypeId)(x:AV)(S:St)(K:AV->St->Prop):Prop:=match fD t with
 | some (es,k)=>if k=1 then eO es x/\∀b,S b=ab->K (.ptr es b 0) (S.upd b ⟨t,es,1,fun _=>x⟩)else(match x with
  | .agg l=>l.length=k/\(∀z∈l,eO es z)/\∀b,S b=ab->K (.ptr es b 0) (S.upd b ⟨t,es,k,fun j=>l.getD j .any⟩)
  | _=>False)
 | ab=>False
def Jt(t:TypeId)(v:Value)(w:World):(Instr.box t v).run ai w=.ok (.pointer (some ⟨w.heap.size,0,ab⟩)) (w.alloc (.cells v.cells t)):=by
 simp[Instr.box,newVar,newRow]
def IH{t:TypeId}{x:AV}{S:St}{K:AV->St->Prop}(h:kH t x S K){w:World}(g:fI w S){v:Value}(d:bM w S.dom x v):Eu (Instr.box t v) w S K:=by
 unfold kH at h
 cases i:fD t with
 | none=>rw[i]at h;exact h.elim
 | some p =>
  obtain⟨es,k⟩:=p;rw[i]at h;simp only at h;by_cases a:k=1
  .rw[ah a]at h;obtain⟨e,b,c,_⟩:=mp g t [x] [v] (by simp only[a6];exact⟨d,trivial⟩) (fun z m=>by simp at m;subst m;exact h.1)
   obtain⟨o,q⟩:=fI.reg b (Y:=⟨t,es,1,fun _=>x⟩) rfl rfl rfl (fun j n=>by simp at n;subst n;rfl)
   refine⟨_,.pointer (some ⟨w.heap.size,0,ab⟩),_,_,h.2 _ e,by simp[bM],o,by rw[q];exact c,?_⟩
   rw[Jt];simp
  .rw[af a]at h
   cases x with
   | agg l =>
    simp only at h;obtain⟨r,f,s⟩:=h;simp only[bM]at d;obtain⟨vs,rfl,u⟩:=d;obtain⟨e,b,c,_⟩:=mp g t l vs u f;rw[r]at b c;exact⟨_,.pointer (some ⟨w.heap.size,0,ab⟩),_,_,s _ e,by simp[bM],b,c,Jt ..⟩
   | _=>exact h.elim
def dY:TypeId->Option TypeId
 | 22=>some 41
 | 28=>some 29
 | 29=>some 2
 | 52=>some 59
 | 59=>some 50
 | 146=>some 3
 | 192=>some 52
 | 216=>some 59
 | _=>ab
def cg:TypeId->Nat
 | 50=>2
 | _=>1
def eChk(P:Program)(t:TypeId):Option (TypeId×Nat):=(P.underlying t).bind fun
 | .slice e=>(P.info? e).map fun i=>(e,i.size)
 | _=>ab
def jE{e:TypeId}(h:dY t=some e):ai.underlying t=some (.slice e)/\∃i,ai.info? e=some i/\i.size=cg e:=by
 have key:∀s,eChk ai t=some (e,s)->ai.underlying t=some (.slice e)/\∃i,ai.info? e=some i/\i.size=s:=by
  intro s a;unfold eChk at a
  cases b:ai.underlying t with
  | none=>rw[b]at a;simp at a
  | some d =>
   rw[b]at a
   cases d<;>simp only[dJ,cW,il,reduceCtorEq]at a
   obtain⟨i,c,rfl,f⟩:=a;exact⟨rfl,i,c,f⟩
 unfold dY at h;split at h<;>first
  | (cases h;exact key _ kr)
  | cases h
def qF(t:TypeId)(x i:AV)(K:AV->Prop):Prop:=match dY t,x,i with
 | some e,.sl es b off len,.int _ n=>es=cg e/\(0<=n/\n<(len:Int))/\K (.ptr es b (off+n.toNat))
 | some e,.lst es len g,.int _ n=>es=cg e/\(0<=n/\n<(len:Int))/\K (.pat es (g n.toNat))
 | ab,.ptr es b k,.int _ n=>(es=2/\t=195)/\(0<=n/\n<2)/\K (.ptr 2 b (k+n.toNat))
 | _,_,_=>False
def xJ{e:TypeId}(a:dY t=some e)(w:World)(b off len cap:Nat)(k:IntKind)(n:Int)(c:0<=n)(d:n<(len:Int)) :
  (Instr.indexAt t (.slice (some ⟨b,off,ab⟩) len cap) (.int k n)).run ai w=.ok (.pointer (some ⟨b,off+n.toNat*cg e,ab⟩)) w:=by
 obtain⟨f,i,g,h⟩:=jE a;have j:0<=n/\n<(len:Int):=⟨c,d⟩;simp[Instr.indexAt,asIntOf,bO f,de g,h,iU,j]
def uY(h:qF t x y K){w:World}{M:Nat->Prop}{vx vy:Value}(a:bM w M x vx)(d:bM w M y vy) :
  ∃z v,K z/\bM w M z v/\(Instr.indexAt t vx vy).run ai w=.ok v w:=by
 unfold qF at h;split at h
 .rename_i e es b off len k n m;obtain⟨rfl,⟨f,j⟩,l⟩:=h;simp only[bM]at a d;obtain⟨cap,cs,ty,fr,rfl,_,_,_⟩:=a;subst d;refine⟨_,_,l,?_,xJ m w b _ len cap k n f j⟩;simp only[bM];rw[cj,aA (cg e) n.toNat]
 .rename_i e es len g k n m;obtain⟨rfl,⟨f,j⟩,l⟩:=h;simp only[bM]at a d;obtain⟨A,c,rfl,p,s⟩:=a;subst d;obtain⟨b,off,rfl,o,B,C⟩:=s om;obtain⟨u,q,r⟩:=C n.toNat om;refine⟨_,_,l,?_,xJ m w b _ len c k n f j⟩;simp only[bM];exact⟨b,_,u,by rw[aA],o,B,by rw[aA];rw[aA]at q;exact q,r⟩
 .rename_i es b k kk n m;obtain⟨⟨rfl,rfl⟩,⟨f,j⟩,l⟩:=h;simp only[bM]at a d;subst a d;obtain⟨r,i,D,E⟩:=jE (t:=59) (e:=50) rfl;refine⟨_,.pointer (some ⟨b,2*k+n.toNat*2,ab⟩),l,?_,?_⟩
  .simp only[bM];rw[cj,aA n.toNat]
  .have p:0<=n/\n<2:=⟨f,j⟩;simp[Instr.indexAt,Instr.sureAddr,asIntOf,bO xY,de D,E,iU,p,cg]
 .exact h.elim
def lJ(t:TypeId)(x y:AV)(S:St)(K:AV->St->Prop):Prop:=match dY t,x with
 | some e,.int _ n=>(match gM e with
  | some (es,z,_)=>x=y/\es=cg e/\(0<=n/\n<=1099511627776)/\∀b,S b=ab->K (.sl es b 0 n.toNat) (S.upd b ⟨e,es,n.toNat,fun _=>z⟩)
  | ab=>False)
 | _,_=>False
def nG(z:Value)(n:Nat):madeCells z.cells (n*z.cells.size)=((bZ n z).flatMap (fun u=>u.cells.toList)).toArray:=by
 apply nj;intro i;simp only[madeCells,Vi,fN]
 induction n generalizing i with
 | zero=>simp
 | succ n ih =>
  simp only[kt,dF];by_cases h:i<z.cells.size
  .rw[eL (by simpa using h)]
   have a:i<(n+1)*z.cells.size:=by rw[dl];omega
   simp[a,ef h,h]
  .rw[ep (by simp;omega)]
   have:=ih (i-z.cells.size);simp only[U7];rw[<-this];by_cases a:i<(n+1)*z.cells.size
   .have b:i-z.cells.size<n*z.cells.size:=by rw[dl]at a;omega
    have c:i%z.cells.size=(i-z.cells.size)%z.cells.size:=by
     rw[Nat.mod_eq_sub_mod om]
    simp[a,b,c]
   .have b:¬i-z.cells.size<n*z.cells.size:=by rw[dl]at a;omega
    simp[a,b]
def Gi{K:AV->St->Prop}(h:lJ t x y S K){w:World}(s:fI w S){vx vy:Value}(d:bM w S.dom x vx)(b:bM w S.dom y vy):Eu (Instr.makeSlice t vx vy) w S K:=by
 unfold lJ at h;split at h
 .rename_i e k n u
  cases c:gM e with
  | none=>rw[c]at h;exact h.elim
  | some p =>
   obtain⟨es,z,zv⟩:=p;rw[c]at h;obtain⟨rfl,rfl,⟨f,M⟩,v⟩:=h;obtain⟨A,i,g,B⟩:=jE u;obtain⟨i',l,C,D,N,O,E,F,G⟩:=py c;rw[g]at l;cases l;simp only[bM]at d b;subst d b;have H:(i.bytes:Int)*n<=281474976710656:=by
    have Q:(i.bytes:Int)*n<=32*n:=cB om f;omega
   have a:=run_make (P:=ai) w t e i zv A g C k k n n f (sF _) H om;obtain⟨I,m,o,q⟩:=mp s e (bZ n.toNat z) (bZ n.toNat zv) (kI (G _ _) _) (fun y b=>by rw[gN b];exact F)
   rw[lv]at m o q;obtain⟨J,L⟩:=fI.reg m (Y:=⟨e,cg e,n.toNat,fun _=>z⟩) rfl rfl rfl (fun j r=>by simp only at r;simp[cS,r])
   rw[D,<-E,nG zv n.toNat]at a;refine⟨_,_,_,_,v _ I,?_,J,by rw[L];exact o,a⟩
   simp only[bM];refine⟨n.toNat,_,e,(0,0),by rw[d7],ae _,jJ w _,?_⟩
   simp only[ct];rw[q];simp
 .exact h.elim
def gL:TypeId->Nat->Option (Nat×Nat)
 | 24,0=>some (1,0)|24,1=>some (1,1)|24,2=>some (1,2)|24,3=>some (1,3)
 | 27,0=>some (1,0)|27,1=>some (1,4)|27,2=>some (1,5)
 | 107,0=>some (1,0)|107,1=>some (1,1)
 | 160,0=>some (1,0)|160,1=>some (1,1)|160,2=>some (1,2)|160,3=>some (1,3)
 | 167,0=>some (2,0)|167,1=>some (2,1)
 | 183,0=>some (1,0)|183,1=>some (1,1)
 | 197,0=>some (2,0)|197,1=>some (2,1)|197,2=>some (2,2)|197,3=>some (2,3)|197,4=>some (2,5)
 | 218,0=>some (1,0)|218,1=>some (1,1)
 | _,_=>ab
def Ll(P:Program)(t f:Nat):Option (Nat×Bool):=(P.underlying t).bind fun
 | .struct fs=>(fs[f]?).bind fun fl=>(P.info? fl.type).map fun i=>(fl.offset,i.size==0)
 | _=>ab
def Lk{t:Nat}(h:gL t f=some (es,k)):Ll ai t f=some (es*k,false):=by
 unfold gL at h;split at h<;>first
  | (cases h;kernel_rfl)
  | cases h
def NZ:Ll ai 50 0=some (0,false):=by kernel_rfl
def NY:Ll ai 50 1=some (1,false):=by kernel_rfl
def qG(t:TypeId)(x:AV)(f:Nat)(K:AV->Prop):Prop:=match gL t f,x with
 | some (es',k),.ptr es b i=>es'=es/\K (.ptr es b (i+k))
 | ab,.ptr es b i=>(es=2/\t=50/\f<2)/\K (.fp b i f)
 | _,_=>False
def uZ(h:qG t x f K){w:World}{M:Nat->Prop}{vx:Value}(g:bM w M x vx) :
  ∃z v,K z/\bM w M z v/\(Instr.fieldAt t vx f).run ai w=.ok v w:=by
 unfold qG at h;split at h
 .rename_i es' k es b i o;obtain⟨rfl,j⟩:=h;simp only[bM]at g;subst g;have a:=Lk o;unfold Ll at a
  cases e:ai.underlying t with
  | none=>rw[e]at a;simp at a
  | some d =>
   rw[e]at a
   cases d<;>simp only[dJ,reduceCtorEq]at a
   rename_i fs
   cases c:fs[f]? with
   | none=>rw[c]at a;simp at a
   | some fl =>
    rw[c]at a;simp only[dJ,cW,il,it]at a;obtain⟨ii,l,m,n⟩:=a;refine⟨_,.pointer (some ⟨b,es'*i+es'*k,ab⟩),j,by simp[bM,cj],?_⟩
    simp[Instr.fieldAt,bO e,c,Instr.sureAddr,fieldPlace,de l,n,iU,m]
 .rename_i es b i o;obtain⟨⟨rfl,rfl,p⟩,j⟩:=h;simp only[bM]at g;subst g;have a:Ll ai 50 f=some (f,false):=by
   have q:f=0∨f=1:=om
   rcases q with rfl|rfl
   .exact NZ
   .exact NY
  unfold Ll at a
  cases e:ai.underlying 50 with
  | none=>rw[e]at a;simp at a
  | some d =>
   rw[e]at a
   cases d<;>simp only[dJ,reduceCtorEq]at a
   rename_i fs
   cases c:fs[f]? with
   | none=>rw[c]at a;simp at a
   | some fl =>
    rw[c]at a;simp only[dJ,cW,il,it]at a;obtain⟨ii,l,m,n⟩:=a;refine⟨_,.pointer (some ⟨b,2*i+f,ab⟩),j,by simp[bM],?_⟩
    simp[Instr.fieldAt,bO e,c,Instr.sureAddr,fieldPlace,de l,n,iU,m]
 .exact h.elim

def Bj(S:St):AV->Option (Nat×Nat×(Nat->AV)×Option Nat)
 | .sl es b off len=>(S b).bind fun X=>if X.es=es/\off+len<=X.n then some (es,len,fun j=>X.g (off+j),some b)else ab
 | .lst es n g=>some (es,n,g,ab)
 | _=>ab
theorem xE(g:Nat->AV)(o:Nat):∀k i,eG (fun j=>g (o+j)) i k=eG g (o+i) k
 | 0,_=>rfl
 | k+1,i=>by simp only[eG];rw[xE g o k (i+1)];rfl
theorem kL(g:Nat->AV):∀k i,(eG g i k).length=k
 | 0,_=>rfl
 | k+1,i=>by simp[eG,kL g k]
theorem tq(g:Nat->AV):∀k i j,j<k->(eG g i k).getD j .any=g (i+j)
 | 0,_,_,h=>om
 | k+1,i,0,_=>by simp[eG]
 | k+1,i,j+1,h=>by
  have:=tq g k (i+1) j om;simp only[eG,bH];rw[this];congr 1;omega
theorem pJ(g:Nat->AV):∀k i z,z∈eG g i k->∃j,j<k/\z=g (i+j)
 | 0,_,_,h=>by simp[eG]at h
 | k+1,i,z,h=>by
  simp only[eG,ed]at h;rcases h with rfl|h
  .exact⟨0,om,rfl⟩
  .obtain⟨j,b,a⟩:=pJ g k (i+1) z h;exact⟨j+1,om,by rw[a];congr 1;omega⟩
theorem xK{w:World}{M:Nat->Prop}{b off es:Nat}{g:Nat->AV}{n:Nat}(c:∀j,j<n->∃u,wl w b (off+es*j) es u/\bM w M (g j) u) :
  ∀(k i:Nat),i+k<=n->∃vs:List Value,a6 w M (eG g i k) vs/\(vs.flatMap (fun u=>u.cells.toList)).length=es*k/\∀j,j<es*k->w.cell? ⟨b,off+es*i+j,ab⟩=(vs.flatMap (fun u=>u.cells.toList))[j]?
 | 0,i,_=>⟨[],by simp[eG,a6],sm,fun j c=>by simp at c⟩
 | k+1,i,q=>by
  obtain⟨u,⟨cs,ty,fr,h,d⟩,l⟩:=c i om;obtain⟨vs,f,m,o⟩:=xK c k (i+1) om;have a:u.cells.toList.length=es/\∀j,j<es->w.cell? ⟨b,off+es*i+j,ab⟩=u.cells.toList[j]?:=by
   match es,d with
   | 1,d =>
    simp only[reads]at d;rw[r9 d.2];exact⟨rfl,fun j c=>by
     obtain rfl:j=0:=om
     rw[oT h];simpa using d.1⟩
   | 2,d =>
    simp only[reads]at d;obtain⟨x,y,rfl,_,_,p,f⟩:=d;refine⟨rfl,fun j c=>?_⟩;rw[oT h]
    match j with
    | 0=>simpa [Value.cells]using p
    | 1=>simpa [Value.cells]using f
    | j+2=>omega
  refine⟨u::vs,by simp only[eG,a6];exact⟨l,f⟩,by simp only[dF,CS,a.1,m];rw[eA];omega,fun j c=>?_⟩
  simp only[dF];by_cases e:j<es
  .rw[eL (by rw[a.1];exact e)];exact a.2 j e
  .rw[ep (by rw[a.1];omega),a.1,<-o (j-es) (by rw[eA]at c;omega)]
   congr 2;rw[eA];omega
def Cz(r:fI w S){x:AV}{v:Value}(e:bM w S.dom x v){es m:Nat}{h:Nat->AV}{o:Option Nat}(a:Bj S x=some (es,m,h,o))(s:0<m) :
  ∃b off c vs,v=.slice (some ⟨b,off,ab⟩) m c/\a6 w S.dom (eG h 0 m) vs/\(vs.flatMap (fun u=>u.cells.toList)).length=es*m/\∀j,j<es*m->w.cell? ⟨b,off+j,ab⟩=(vs.flatMap (fun u=>u.cells.toList))[j]?:=by
 cases x with
 | sl es' b off len =>
  simp only[Bj]at a
  cases k:S b with
  | none=>rw[k]at a;simp at a
  | some X =>
   rw[k]at a;simp only[dJ]at a;split at a
   .rename_i l;simp only[fv,il]at a;obtain⟨rfl,rfl,rfl,_⟩:=a;simp only[bM]at e;obtain⟨cap,cs',ty',fr',rfl,_,_,_⟩:=e;obtain⟨cs,p,t,d,_⟩:=r b X k;obtain⟨vs,q,f,i⟩:=oh d len off l.2;rw[l.1]at f i;refine⟨b,es'*off,cap,vs,rfl,by rw[xE,cN];exact q,f,fun j d=>?_⟩
    rw[oT p];exact i j d
   .cases a
 | lst es' n g =>
  simp only[Bj,fv,il]at a;obtain⟨rfl,rfl,rfl,_⟩:=a;simp only[bM]at e;obtain⟨A,c,rfl,l,p⟩:=e;obtain⟨b,off,rfl,_,_,d⟩:=p s;obtain⟨vs,q,f,i⟩:=xK d n 0 om;exact⟨b,off,c,vs,rfl,q,f,fun j d=>by have:=i j d;simpa using this⟩
 | _=>simp[Bj]at a
def nL(g:Nat->AV)(len m:Nat)(h:Nat->AV):Nat->AV:=if m=1 then bR g len (h 0)else fun j=>if j<len then g j else h (j-len)
def D7(a:j<len):nL g len m h j=g j:=by
 unfold nL;split
 .simp only[bR];rw[af om]
 .simp only;rw[ah a]
def yP(a:len<=j)(b:j<len+m):nL g len m h j=h (j-len):=by
 unfold nL;split
 .simp only[bR];rw[ah om];congr 1;omega
 .simp only;rw[af om]
def St.del(S:St)(b:Nat):St:=fun k=>if k=b then ab else S k
def gP(t t':TypeId)(s x:AV)(S:St)(K:AV->St->Prop):Prop:=match dY t with
 | some e=>t=t'/\(gM e).isSome=true/\(match Bj S x with
  | some (es,m,h,o)=>es=cg e/\0<m/\(∀j,j<m->eO es (h j))/\(match s with
   | .nil=>m<=1048576/\∀b,S b=ab->K (.sl es b 0 m) (S.upd b ⟨e,es,m,h⟩)
   | .sl es' b off len=>(match S b with
    | some X=>es'=es/\off=0/\X.ty=e/\X.es=es/\X.n=len/\len+m<=1048576/\o≠some b /\
     ∀b',(b'=b∨S b'=ab)->K (.sl es b' 0 (len+m)) ((S.del b).upd b' ⟨e,es,len+m,nL X.g len m h⟩)
    | ab=>False)
   | _=>False)
  | ab=>False)
 | ab=>False
def o6(h:eO es x)(d:bM w M x z)(n k:Nat)(y:Value)(b:(Builtin.zeroCells z.cells n)[k]? = some y):mc y:=by
 obtain⟨g,e,_⟩:=rY h d;simp only[Builtin.zeroCells,Vi,cW]at b;obtain⟨i,c,rfl⟩:=b;by_cases f:z.cells.size=0
 .rw[f]at c;simp at c
 .have a:i%z.cells.size<z.cells.size:=dh _ om;rw[getElem!_pos z.cells _ a];exact(e _ sm).2
def dI.drew(M:Nat->Prop)(w:World):dI M M w w.drew:=⟨rfl,rfl,rfl,ae _,fun _ _ _=>rfl,fun _ cs _ _ h=>⟨cs,h,rfl⟩,fun _ _ h=>h⟩
def fI.drew(h:fI w S):fI w.drew S:=fun b X a=>by
 obtain⟨cs,c,d,e,f⟩:=h b X a;exact⟨cs,c,d,fun j g=>by obtain⟨u,i,k⟩:=e j g;exact⟨u,i,bM.grow h.noU (dI.drew _ w) _ _ k⟩,f⟩
def fI.less(h:fI w S)(a:∀b X,S' b=some X->S b=some X):fI w S'/\∀k,S'.dom k->S.dom k:=by
 have c:∀k,S'.dom k->S.dom k:=fun k d=>by
  simp only[St.dom]at d ⊢
  cases e:S' k with
  | none=>exact absurd e d
  | some X=>rw[a k X e];simp
 have f:dI S.dom S'.dom w w:=(dI.refl S.dom w).weaken c;refine⟨fun b X g=>?_,c⟩;obtain⟨cs,i,l,m,n⟩:=h b X (a b X g);exact⟨cs,i,l,fun j o=>by obtain⟨u,p,q⟩:=m j o;exact⟨u,p,bM.grow h.noU f _ _ q⟩,n⟩
def F0(S:St)(b:Nat):∀k X,S.del b k=some X->S k=some X:=by
 intro k X h;simp only[St.del]at h;split at h
 .cases h
 .exact h

end Go.Proofs.YtdobfmlmenaajaaGreatDoor
