/-
  Lemmas for NeighbourIndex.
-/
import Derived.Test.YtdobfmlmenaajaaGreatDoorJ04
import Derived.Lib.AppendZerosOnto
namespace Go.Proofs.YtdobfmlmenaajaaGreatDoor
open Go.RowKit Tryz
open _root_.Array renaming getElem?_eq_getElem→aG,getD_eq_getD_getElem?→aJ,getElem?_setIfInBounds_ne→cf,getElem?_append_left→eS,getElem?_eq_none→fm,ext'→fV,size_append→gP,getElem?_setIfInBounds_self_of_lt→jV,getElem?_append→mL,ext_getElem?→pF
open _root_.Bool renaming and_eq_true→aA
open _root_.Classical renaming choose→df,choose_spec→dS
open _root_.List renaming replicate→bR,getElem?_cons_succ→bT,size_toArray→bX,range→cn,map_cons→cq,mem_of_getElem?→cC,length_cons→cD,getD→cL,getElem?_cons_zero→cN,getElem?_eq_some_iff→cO,flatMap_cons→de,mem_cons_of_mem→dG,getElem?_append_right→dV,getElem?_append_left→eh,mem_cons_self→er,getElem?_toArray→fG,mem_map→fM,eq_of_mem_replicate→gC,length_nil→jG,replicate_succ→kW,length_replicate→mI,cons_append→mY,map_congr_left→oI,cons→r7
open _root_.Nat renaming le_refl→ah,zero_add→aF,mul_comm→aS,mul_le_mul_left→a9,le_trans→bV,mul_le_mul_right→bY,mul_add→cI,add_zero→dd,lt_of_lt_of_le→di,mul_zero→dT,mul_succ→ep,succ_mul→ia
open _root_.Ne renaming symm→ao
open _root_.Option renaming none→ac,map_eq_some_iff→cr,bind_some→da,some→ef
open _root_.Or renaming inr→bH,inl→bQ
open Region renaming wanted→eB
open Tryz renaming prog→aj
set_option maxHeartbeats 6400000
set_option maxRecDepth 4096
set_option linter.all false
inductive AV where
 | int (k:IntKind) (n:Int)
 | bool (b:Bool)
 | big (z:Int)
 | nil
 | sl (es b off len:Nat)
 | ptr (es b i:Nat)
 | lst (es n:Nat) (g:Nat->AV)
 | pat (es:Nat) (x:AV)
 | tup (l:List AV)
 | agg (l:List AV)
 | fn (f:Nat) (l:List AV)
 | mag (n:Nat)
 | fp (b i f:Nat)
 | bset (p:Bool->Prop)
 | any
 | nfn
 | mfn (f:Nat) (l:List AV)
structure dH where
 ty:TypeId
 es:Nat
 n:Nat
 g:Nat->AV
abbrev St:=Nat->Option dH
def St.dom(S:St)(b:Nat):Prop:=S b≠none
def St.none:St:=fun _=>ac
def St.upd(S:St)(b:Nat)(x:dH):St:=fun k=>if k=b then some x else S k
def one:Value->Prop
 | .agg _=>False
 | .tuple _=>False
 | _=>True
def kz:Value->Prop
 | .int .u32 _=>False
 | _=>True
def reads(cs:Array Value)(off:Nat):Nat->Value->Prop
 | 1,u=>cs[off]? = some u/\one u
 | 2,u=>∃x y,u=.agg #[x,y]/\one x/\one y/\cs[off]? = some x/\cs[off+1]? = some y
 | _,_=>False
def sC(w:World)(b off es:Nat)(u:Value):Prop:=∃cs ty fr,w.heap[b]? = some (.cells cs ty fr)/\reads cs off es u
mutual
def bs(w:World)(M:Nat->Prop):AV->Value->Prop
 | .int k n,v=>v=.int k n
 | .bool b,v=>v=.bool b
 | .big z,v=>d7 w w.heap.size v z
 | .nil,v=>v=.slice none 0 0
 | .sl es b off len,v=>∃cap cs ty fr,v=.slice (some ⟨b,es*off,none⟩) len cap/\len<=cap/\w.heap[b]? = some (.cells cs ty fr)/\es*(off+cap)<=cs.size
 | .ptr es b i,v=>v=.pointer (some ⟨b,es*i,none⟩)
 | .lst es n g,v=>∃A c,v=.slice A n c/\n<=c/\(0<n->∃b off,A=some ⟨b,off,none⟩/\b<w.heap.size/\¬M b/\∀j,j<n->∃u,sC w b (off+es*j) es u/\bs w M (g j) u)
 | .pat es x,v=>∃b off u,v=.pointer (some ⟨b,off,none⟩)/\b<w.heap.size/\¬M b/\sC w b off es u/\bs w M x u
 | .tup l,v=>∃vs:List Value,v=.tuple vs.toArray/\bq w M l vs
 | .agg l,v=>∃vs:List Value,v=.agg (vs.flatMap (fun u=>u.cells.toList)).toArray/\bq w M l vs
 | .fn f l,v=>∃vs:List Value,v=.func (.func f) #[] vs.toArray/\bq w M l vs
 | .mag n,v=>d7 w w.heap.size (.agg #[.bool false,v]) (n:Int)
 | .fp b i f,v=>v=.pointer (some ⟨b,2*i+f,none⟩)
 | .bset p,v=>∃s,v=.bool s/\p s
 | .any,_=>True
 | .nfn,v=>v=.nilFunc
 | .mfn f l,v=>∃vs:List Value,v=.func (.func f) vs.toArray #[]/\bq w M l vs
def bq(w:World)(M:Nat->Prop):List AV->List Value->Prop
 | [],[]=>True
 | a::l,v::vs=>bs w M a v/\bq w M l vs
 | [],_::_=>False
 | _::_,[]=>False
end
def dN(w:World)(S:St):Prop:=∀b x,S b=some x->∃cs,w.heap[b]? = some (.cells cs x.ty (0,0))/\x.es*x.n<=cs.size /\
 (∀j,j<x.n->∃u,reads cs (x.es*j) x.es u/\bs w S.dom (x.g j) u)/\∀(k:Nat) (y:Value),cs[k]? = some y->kz y
def M6(M:Nat->Prop)(w:World):Prop:=∀b,M b->∀cs ty fr,w.heap[b]? = some (.cells cs ty fr)->∀(k:Nat) (y:Value),cs[k]? = some y->kz y
theorem dN.noU{w:World}{S:St}(h:dN w S):M6 S.dom w:=by
 intro b hb cs ty fr hc k y hy;unfold St.dom at hb
 cases e:S b with
 | none=>exact absurd e hb
 | some x =>
  obtain⟨cs',h1,_,_,h4⟩:=h b x e;rw[h1]at hc
  cases hc
  exact h4 k y hy
structure cw(M M':Nat->Prop)(w w':World):Prop where
 os:w'.os=w.os
 tape:w'.tape=w.tape
 output:w'.output=w.output
 size:w.heap.size<=w'.heap.size
 keep:∀k,k<w.heap.size->¬M k->w'.heap[k]? = w.heap[k]?
 shape:∀(k:Nat) (cs:Array Value) (ty:TypeId) (fr:Nat×Nat),w.heap[k]? = some (Obj.cells cs ty fr)->∃cs':Array Value,w'.heap[k]? = some (Obj.cells cs' ty fr)/\cs'.size=cs.size
 own:∀k,k<w.heap.size->M' k->M k
theorem cw.refl(M:Nat->Prop)(w:World):cw M M w w:=⟨rfl,rfl,rfl,ah _,fun _ _ _=>rfl,fun _ cs _ _ h=>⟨cs,h,rfl⟩,fun _ _ h=>h⟩
theorem cw.trans{M M' M'':Nat->Prop}{a b c:World}(h:cw M M' a b)(k:cw M' M'' b c):cw M M'' a c :=
 ⟨k.os.trans h.os,k.tape.trans h.tape,k.output.trans h.output,bV h.size k.size,
   fun i hi hm=>(k.keep i (di hi h.size) (fun hm'=>hm (h.own i hi hm'))).trans (h.keep i hi hm),
   fun i cs ty fr hc=>by
    obtain⟨cs1,h1,e1⟩:=h.shape i cs ty fr hc;obtain⟨cs2,h2,e2⟩:=k.shape i cs1 ty fr h1;exact⟨cs2,h2,e2.trans e1⟩,
   fun i hi hm=>h.own i hi (k.own i (di hi h.size) hm)⟩
theorem cw.weaken{M M' M'':Nat->Prop}{a b:World}(h:cw M M' a b)(hs:∀k,M'' k->M' k):cw M M'' a b :=
 ⟨h.os,h.tape,h.output,h.size,h.keep,h.shape,fun k hk hm=>h.own k hk (hs k hm)⟩
theorem dW{w:World}{b:Nat}{o:Obj}(h:w.heap[b]? = some o):b<w.heap.size:=by
 rcases Nat.lt_or_ge b w.heap.size with hlt|hge
 ·exact hlt
 ·rw[fm hge]at h;cases h
theorem wl{w:World}{ad:Addr}{v:Value}(h:w.cell? ad=some v):∃cs ty fr,w.heap[ad.block]? = some (.cells cs ty fr)/\∃k:Nat,cs[k]? = some v:=by
 unfold World.cell? at h;split at h
 ·rename_i cs ty fr hc;split at h
  ·cases h
  ·exact⟨cs,ty,fr,hc,_,h⟩
 ·cases h
theorem d7.grow{M M':Nat->Prop}{w w':World}(hu:M6 M w)(hg:cw M M' w w'){v:Value}{z:Int}(h:d7 w w.heap.size v z):d7 w' w'.heap.size v z:=by
 obtain⟨neg,A,n,c,xs,h1,h2,h3,h4,h5⟩:=h;refine⟨neg,A,n,c,xs,h1,h2,⟨h3.1,h3.2.1,fun hn=>?_⟩,h4,h5⟩;obtain⟨ad,e,hl,hc⟩:=h3.2.2 hn;refine⟨ad,e,di hl hg.size,fun j hj=>?_⟩;have hj1:=hc j hj;have hm:¬M ad.block:=by
  intro hm;obtain⟨cs,ty,fr,hb,k,hk⟩:=wl hj1;rw[lX]at hb;exact hu _ hm cs ty fr hb k _ hk
 rw[<-hj1];exact World.cell?_of_block (w:=w) (by rw[lX];exact hg.keep _ hl hm)
theorem sC.grow{M M':Nat->Prop}{w w':World}(hg:cw M M' w w'){b off es:Nat}{u:Value}(hb:b<w.heap.size)(hm:¬M b)(h:sC w b off es u):sC w' b off es u:=by
 obtain⟨cs,ty,fr,h1,h2⟩:=h;exact⟨cs,ty,fr,(hg.keep b hb hm).trans h1,h2⟩
mutual
theorem bs.grow{M M':Nat->Prop}{w w':World}(hu:M6 M w)(hg:cw M M' w w'):∀(a:AV) (v:Value),bs w M a v->bs w' M' a v
 | .int k n,v,h=>by simpa [bs]using h
 | .bool b,v,h=>by simpa [bs]using h
 | .big z,v,h=>by simp only[bs]at h ⊢;exact h.grow hu hg
 | .nil,v,h=>by simpa [bs]using h
 | .sl es b off len,v,h=>by
  simp only[bs]at h ⊢;obtain⟨cap,cs,ty,fr,h1,h2,h3,h4⟩:=h;obtain⟨cs',h5,h6⟩:=hg.shape b cs ty fr h3;exact⟨cap,cs',ty,fr,h1,h2,h5,by rw[h6];exact h4⟩
 | .ptr es b i,v,h=>by simpa [bs]using h
 | .lst es n g,v,h=>by
  simp only[bs]at h ⊢;obtain⟨A,c,h1,h2,h3⟩:=h;refine⟨A,c,h1,h2,fun hn=>?_⟩;obtain⟨b,off,e,hb,hm,hj⟩:=h3 hn;refine⟨b,off,e,di hb hg.size,fun hm'=>hm (hg.own b hb hm'),fun j hjn=>?_⟩;obtain⟨u,hr,hu'⟩:=hj j hjn;exact⟨u,hr.grow hg hb hm,bs.grow hu hg (g j) u hu'⟩
 | .pat es x,v,h=>by
  simp only[bs]at h ⊢;obtain⟨b,off,u,h1,hb,hm,hr,hx⟩:=h;exact⟨b,off,u,h1,di hb hg.size,fun hm'=>hm (hg.own b hb hm'),hr.grow hg hb hm,bs.grow hu hg x u hx⟩
 | .tup l,v,h=>by
  simp only[bs]at h ⊢;obtain⟨vs,h1,h2⟩:=h;exact⟨vs,h1,bq.grow hu hg l vs h2⟩
 | .agg l,v,h=>by
  simp only[bs]at h ⊢;obtain⟨vs,h1,h2⟩:=h;exact⟨vs,h1,bq.grow hu hg l vs h2⟩
 | .fn f l,v,h=>by
  simp only[bs]at h ⊢;obtain⟨vs,h1,h2⟩:=h;exact⟨vs,h1,bq.grow hu hg l vs h2⟩
 | .mag n,v,h=>by simp only[bs]at h ⊢;exact h.grow hu hg
 | .fp b i f,v,h=>by simpa [bs]using h
 | .bset p,v,h=>by simpa [bs]using h
 | .any,v,h=>by simp[bs]
 | .nfn,v,h=>by simpa [bs]using h
 | .mfn f l,v,h=>by
  simp only[bs]at h ⊢;obtain⟨vs,h1,h2⟩:=h;exact⟨vs,h1,bq.grow hu hg l vs h2⟩
theorem bq.grow{M M':Nat->Prop}{w w':World}(hu:M6 M w)(hg:cw M M' w w'):∀(l:List AV) (vs:List Value),bq w M l vs->bq w' M' l vs
 | [],[],_=>by simp[bq]
 | a::l,v::vs,h=>by
  simp only[bq]at h ⊢;exact⟨bs.grow hu hg a v h.1,bq.grow hu hg l vs h.2⟩
 | [],_::_,h=>by simp[bq]at h
 | _::_,[],h=>by simp[bq]at h
end
def cS(f:Nat)(args:List AV)(S:St)(post:AV->St->Prop):Prop :=
 ∀(w:World) (vs:List Value),dN w S->bq w S.dom args vs->Calls aj f vs.toArray w (fun e w' =>
  ∃v r S',e=.returned v/\post r S'/\bs w' S'.dom r v/\dN w' S'/\cw S.dom S'.dom w w')
theorem cS.mono{f:Nat}{args:List AV}{S:St}{post post':AV->St->Prop}(h:cS f args S post)(hp:∀r S',post r S'->post' r S'):cS f args S post' :=
 fun w vs hs hr=>(h w vs hs hr).mono fun _ _ ⟨v,r,S',h1,h2,h3⟩=>⟨v,r,S',h1,hp r S' h2,h3⟩
abbrev Tm:=Nat->AV
theorem Tm.put_ex:∃p:Tm->Option Nat->AV->Tm,∀O d x,p O d x=(match d with
 | some d=>fun t=>if t=d then x else O t
 | ac=>O):=⟨_,fun _ _ _=>rfl⟩
noncomputable def Tm.put:Tm->Option Nat->AV->Tm:=df Tm.put_ex
theorem Tm.put_eq(O:Tm)(d:Option Nat)(x:AV):O.put d x=(match d with
 | some d=>fun t=>if t=d then x else O t
 | ac=>O):=dS Tm.put_ex O d x
def KN:Value->AV
 | .int k n=>.int k n
 | .bool b=>.bool b
 | .slice ac 0 0=>.nil
 | _=>.any
def ev(O:Tm):Operand->AV
 | .tmp t=>O t
 | .const v=>KN v
 | .global g=>.ptr 1 g 0
 | .func f=>.fn f []
theorem Eo(w:World)(M:Nat->Prop)(v:Value):bs w M (KN v) v:=by
 unfold KN;split<;>simp[bs]
structure RT(O:Tm)(S:St)(N:Nat)(a:Act)(w:World):Prop where
 defers:a.defers=[]
 size:a.tmps.size=N
 tm:∀t,bs w S.dom (O t) (a.tmps.getD t undef)
 st:dN w S
theorem RT.ev{O:Tm}{S:St}{N:Nat}{a:Act}{w:World}(h:RT O S N a w)(x:Operand):bs w S.dom (ev O x) (a.eval x):=by
 cases x with
 | tmp t=>exact h.tm t
 | const v=>exact Eo _ _ v
 | global g=>simp only[Go.Proofs.YtdobfmlmenaajaaGreatDoor.ev,bs,dT];rfl
 | func f=>simp only[Go.Proofs.YtdobfmlmenaajaaGreatDoor.ev,bs];exact⟨[],rfl,by simp[bq]⟩
theorem RT.put{O:Tm}{S S':St}{N:Nat}{a:Act}{w w':World}(h:RT O S N a w)(hg:cw S.dom S'.dom w w')(hs:dN w' S'){d:Option Nat}(hd:∀k,d=some k->k<N){x:AV}{v:Value}(hx:bs w' S'.dom x v) :
  RT (O.put d x) S' N (a.put d v) w':=by
 have hold:∀t,bs w' S'.dom (O t) (a.tmps.getD t undef):=fun t=>bs.grow h.st.noU hg _ _ (h.tm t)
 cases d with
 | none=>rw[Tm.put_eq];exact⟨h.defers,h.size,hold,hs⟩
 | some d =>
  refine⟨h.defers,by simp[Act.put,h.size],fun t=>?_,hs⟩
  have hdN:=hd d rfl;simp only[Tm.put_eq,Act.put];by_cases e:t=d
  ·subst e;have:(a.tmps.setIfInBounds t v).getD t undef=v:=by
    simp[Array.getD,h.size,hdN]
   rw[if_pos rfl,this];exact hx
  ·have:(a.tmps.setIfInBounds d v).getD t undef=a.tmps.getD t undef:=by
    simp only[aJ];rw[cf (ao e)]
   rw[if_neg e,this];exact hold t
def Ce(op:BinOp)(t:TypeId)(x y:AV)(K:AV->Prop):Prop:=match x,y with
 | .int k a,.int k' b=>k=k'/\(match op with
  | .add=>K (.int k (k.wrap (a+b)))
  | .sub=>K (.int k (k.wrap (a-b)))
  | .mul=>K (.int k (k.wrap (a*b)))
  | .quo=>b≠0/\K (.int k (k.wrap (a.tdiv b)))
  | .rem=>b≠0/\K (.int k (a.tmod b))
  | .eql=>K (.bool (a==b))
  | .neq=>K (.bool (a != b))
  | .lss=>K (.bool (decide (a<b)))
  | .leq=>K (.bool (decide (a<=b)))
  | .gtr=>K (.bool (decide (b<a)))
  | .geq=>K (.bool (decide (b<=a)))
  | _=>False)
 | .bool a,.bool b=>t=4/\(match op with
  | .eql=>K (.bool (a==b))
  | .neq=>K (.bool (a != b))
  | _=>False)
 | .bset p,.bset q=>t=4/\op=.neq/\K (.bset (fun s=>∃a b,p a/\q b/\s=(a != b)))
 | .sl _ _ _ _,.nil=>(t=29/\op=.eql)/\K (.bool false)
 | .lst _ n _,.nil=>(t=29/\op=.eql/\0<n)/\K (.bool false)
 | .nil,.nil=>(t=29/\op=.eql)/\K (.bool true)
 | _,_=>False
theorem wE{op:BinOp}{ty:TypeId}{x y:AV}{K:AV->Prop}(h:Ce op ty x y K){w:World}{M:Nat->Prop}{vx vy:Value}(hx:bs w M x vx)(hy:bs w M y vy)(ox oy:Operand) :
  ∃z v,K z/\bs w M z v/\(do eqGuard op ty ox oy vx vy;binOp op ty vx vy:Sem Value).run aj w=.ok v w:=by
 have q29:∀(w:World) (a:Option Addr) (n c n' c':Nat),(binOp .eql 29 (.slice a n c) (.slice none n' c')).run aj w=.ok (.bool a.isNone) w:=fun w a n c n' c'=>Lib.run_eql_slice_nil w _ _ a n c n' c' underlying29;unfold Ce at h;split at h
 ·rename_i k a k' b;obtain⟨rfl,h⟩:=h;simp only[bs]at hx hy;subst hx hy;split at h
  ·exact⟨_,.int k (k.wrap (a+b)),h,by simp[bs],by simp[eqGuard,binOp,Op.intArith]⟩
  ·exact⟨_,.int k (k.wrap (a-b)),h,by simp[bs],by simp[eqGuard,binOp,Op.intArith]⟩
  ·exact⟨_,.int k (k.wrap (a*b)),h,by simp[bs],by simp[eqGuard,binOp,Op.intArith]⟩
  ·exact⟨_,.int k (k.wrap (a.tdiv b)),h.2,by simp[bs],by simp[eqGuard,binOp,Op.intDiv,h.1]⟩
  ·exact⟨_,.int k (a.tmod b),h.2,by simp[bs],by simp[eqGuard,binOp,Op.intDiv,h.1]⟩
  ·exact⟨_,.bool (a==b),h,by simp[bs],by simp[eqGuard,binOp,Op.intCmp]⟩
  ·exact⟨_,.bool (a != b),h,by simp[bs],by simp[eqGuard,binOp,Op.intCmp]⟩
  ·exact⟨_,.bool (decide (a<b)),h,by simp[bs],by simp[eqGuard,binOp,Op.intCmp]⟩
  ·exact⟨_,.bool (decide (a<=b)),h,by simp[bs],by simp[eqGuard,binOp,Op.intCmp]⟩
  ·exact⟨_,.bool (decide (b<a)),h,by simp[bs],by simp[eqGuard,binOp,Op.intCmp]⟩
  ·exact⟨_,.bool (decide (b<=a)),h,by simp[bs],by simp[eqGuard,binOp,Op.intCmp]⟩
  ·exact h.elim
 ·rename_i a b;obtain⟨rfl,h⟩:=h;simp only[bs]at hx hy;subst hx hy;have hu:(underlying 4).run aj w=.ok .bool w:=by
   simp[underlying,underlying4]
  have he:(Op.equal 4 (.bool a) (.bool b)).run aj w=.ok (a==b) w:=by
   unfold Op.equal Op.maxDepth;rw[Op.equalIn];simp[hu]
  split at h
  ·exact⟨_,.bool (a==b),h,by simp[bs],by simp[eqGuard,binOp,he]⟩
  ·exact⟨_,.bool (a != b),h,by simp[bs],by simp[eqGuard,binOp,he];cases a<;>cases b<;>rfl⟩
  ·exact h.elim
 ·rename_i p q;obtain⟨rfl,rfl,h⟩:=h;simp only[bs]at hx hy;obtain⟨a,rfl,ha⟩:=hx;obtain⟨b,rfl,hb⟩:=hy;have hu:(underlying 4).run aj w=.ok .bool w:=by
   simp[underlying,underlying4]
  have he:(Op.equal 4 (.bool a) (.bool b)).run aj w=.ok (a==b) w:=by
   unfold Op.equal Op.maxDepth;rw[Op.equalIn];simp[hu]
  exact⟨_,.bool (a != b),h,by simp only[bs];exact⟨_,rfl,a,b,ha,hb,rfl⟩,by simp[eqGuard,binOp,he];cases a<;>cases b<;>rfl⟩
 ·obtain⟨⟨rfl,rfl⟩,h⟩:=h;simp only[bs]at hx hy;obtain⟨cap,cs,ty,fr,rfl,_⟩:=hx;subst hy;exact⟨_,.bool false,h,by simp[bs],by simp[eqGuard,q29]⟩
 ·obtain⟨⟨rfl,rfl,h0⟩,h⟩:=h;simp only[bs]at hx hy;obtain⟨A,c,rfl,_,hb⟩:=hx;obtain⟨b,off,rfl,_⟩:=hb h0;subst hy;exact⟨_,.bool false,h,by simp[bs],by simp[eqGuard,q29]⟩
 ·obtain⟨⟨rfl,rfl⟩,h⟩:=h;simp only[bs]at hx hy;subst hx hy;exact⟨_,.bool true,h,by simp[bs],by simp[eqGuard,q29]⟩
 ·exact h.elim
def d9:TypeId->Option (Nat×Nat)
 | 2=>some (1,1)|3=>some (1,1)|4=>some (1,1)|5=>some (1,1)|22=>some (1,1)|25=>some (1,1)|28=>some (1,1)|29=>some (1,1)
 | 34=>some (1,1)|41=>some (1,1)|48=>some (1,1)|52=>some (1,1)|59=>some (1,1)|97=>some (1,1)|146=>some (1,1)|158=>some (1,1)|192=>some (1,1)|216=>some (1,1)
 | 50=>some (2,1)|167=>some (2,2)|195=>some (2,2)|197=>some (2,7)
 | 24=>some (1,4)|27=>some (1,6)|107=>some (1,2)|160=>some (1,4)|183=>some (1,2)|202=>some (1,2)|238=>some (1,3)|239=>some (1,8)|218=>some (1,2)
 | _=>ac
def FM:TypeDesc->Bool
 | .struct _=>true
 | .array _ _=>true
 | _=>false
def Gx(P:Program)(t es k:Nat):Bool:=match P.info? t,P.underlying t with
 | some i,some d=>i.size==es*k&&(if FM d then es*k != 1 else es==1&&k==1)
 | _,_=>false
theorem pL{t es k:Nat}(h:d9 t=some (es,k)):Gx aj t es k=true/\(es=1∨es=2)/\0<k:=by
 unfold d9 at h;split at h<;>first
  | (cases h;refine⟨by kernel_rfl,om,om⟩)
  | cases h
theorem uP{t es k:Nat}(h:Gx aj t es k=true):∃i d,aj.info? t=some i/\i.size=es*k/\aj.underlying t=some d/\((FM d=true/\es*k≠1)∨(FM d=false/\es=1/\k=1)):=by
 unfold Gx at h;split at h
 ·rename_i i d hi hd;simp only[aA,beq_iff_eq]at h;refine⟨i,d,hi,h.1,hd,?_⟩;have h2:=h.2;split at h2
  ·rename_i ha;exact bQ ⟨ha,by simpa using h2⟩
  ·rename_i ha;simp at h2;exact bH ⟨by simpa using ha,h2.1,h2.2⟩
 ·cases h
def dF(g:Nat->AV)(i:Nat):Nat->List AV
 | 0=>[]
 | k+1=>g i::dF g (i+1) k
theorem pP{u:Value}(h:one u):u.cells=#[u]:=by cases u<;>first|rfl|exact h.elim
theorem mE{w:World}{b off:Nat}{cs:Array Value}{ty:TypeId}{fr:Nat×Nat}(h:w.heap[b]? = some (.cells cs ty fr)):w.cell? ⟨b,off,ac⟩=cs[off]?:=by
 simp[World.cell?,h]
theorem gH(b off k:Nat):(⟨b,off,ac⟩:Addr).add k=⟨b,off+k,ac⟩:=by
 unfold Addr.add;split<;>simp_all
theorem qd{w:World}{b:Nat}{cs:Array Value}{ty:TypeId}{fr:Nat×Nat}(h:w.heap[b]? = some (.cells cs ty fr))(off:Nat)(P:Program) :
  ∀(l:List Value) (i:Nat) (acc:Array Value),(∀j,j<l.length->cs[off+i+j]? = l[j]?)->(loadCellsFrom ⟨b,off,ac⟩ i l.length acc).run P w=.ok (acc++l.toArray) w
 | [],i,acc,_=>by simp[loadCellsFrom]
 | v::l,i,acc,hc=>by
  have h0:=hc 0 sm
  simp only[dd,cN]at h0;have ih:=qd h off P l (i+1) (acc.push v) (fun j hj=>by
   have:=hc (j+1) (by simp;omega)
   rw[bT]at this;rw[<-this];congr 1;omega)
  simp only[cD,loadCellsFrom];simp only[load,gH];simp[Sem.run,bind,Sem.bind,mE h,h0];simpa using ih
theorem yn{t:TypeId}{d:TypeDesc}(hd:aj.underlying t=some d)(w:World):(isAgg t).run aj w=.ok (FM d) w:=by
 simp only[isAgg,Sem.run_bind,run_underlying hd,Result.andThen_ok]
 cases d<;>rfl
theorem cB{t:TypeId}{i:TypeInfo}(hi:aj.info? t=some i)(w:World):(sizeOf t).run aj w=.ok i.size w:=by
 simp[sizeOf,typeInfo,hi]
theorem tw{w:World}{b off t es k:Nat}{cs:Array Value}{ty:TypeId}{fr:Nat×Nat}(h:w.heap[b]? = some (.cells cs ty fr))(ht:d9 t=some (es,k))(hk:es*k≠1)
  (l:List Value) (hl:l.length=es*k) (hc:∀j,j<l.length->cs[off+j]? = l[j]?) :
  (Instr.loadAt t (.pointer (some ⟨b,off,ac⟩))).run aj w=.ok (.agg l.toArray) w:=by
 obtain⟨hch,he,_⟩:=pL ht;obtain⟨i,d,hi,hs,hd,hx⟩:=uP hch;have ha:FM d=true:=hx.elim (fun hx=>hx.1) (fun hx=>by rw[hx.2.1,hx.2.2]at hk;omega)
 have h2:=qd h off aj l 0 #[] (fun j hj=>by rw[dd];exact hc j hj)
 simp only[Instr.loadAt,Instr.sureAddr,pure_bind,loadVar,Sem.run_bind,yn hd,ha,Result.andThen_ok,if_true,cB hi,loadCells];rw[hs,<-hl,h2];simp
theorem pM{w:World}{b off t es:Nat}{cs:Array Value}{ty:TypeId}{fr:Nat×Nat}{u:Value}(h:w.heap[b]? = some (.cells cs ty fr))(ht:d9 t=some (es,1))(hr:reads cs off es u) :
  (Instr.loadAt t (.pointer (some ⟨b,off,ac⟩))).run aj w=.ok u w:=by
 obtain⟨hc,he,_⟩:=pL ht;rcases he with rfl|rfl
 ·obtain⟨i,d,hi,hs,hd,hx⟩:=uP hc;have ha:FM d=false:=hx.elim (fun hx=>absurd rfl hx.2) (fun hx=>hx.1);simp only[reads]at hr;simp only[Instr.loadAt,Instr.sureAddr,pure_bind,loadVar,Sem.run_bind,yn hd,ha,Result.andThen_ok];simp[mE h,hr.1]
 ·simp only[reads]at hr;obtain⟨x,y,rfl,hx1,hy1,h0,h1⟩:=hr;exact tw h ht om [x,y] rfl (fun j hj=>by
   match j with
   | 0=>simpa using h0
   | 1=>simpa using h1
   | j+2=>simp at hj;omega)
theorem l7{w:World}{M:Nat->Prop}{cs:Array Value}{es n:Nat}{g:Nat->AV}(hj:∀j,j<n->∃u,reads cs (es*j) es u/\bs w M (g j) u) :
  ∀(k i:Nat),i+k<=n->∃vs:List Value,bq w M (dF g i k) vs/\(vs.flatMap (fun u=>u.cells.toList)).length=es*k/\∀j,j<es*k->cs[es*i+j]? = (vs.flatMap (fun u=>u.cells.toList))[j]?
 | 0,i,_=>⟨[],by simp[dF,bq],sm,fun j hj=>by simp at hj⟩
 | k+1,i,hk=>by
  obtain⟨u,hr,hu⟩:=hj i om;obtain⟨vs,h1,h2,h3⟩:=l7 hj k (i+1) om;have hsz:u.cells.toList.length=es/\∀j,j<es->cs[es*i+j]? = u.cells.toList[j]?:=by
   match es,hr with
   | 1,hr =>
    simp only[reads]at hr;rw[pP hr.2];exact⟨rfl,fun j hj=>by
     obtain rfl:j=0:=om
     simpa using hr.1⟩
   | 2,hr =>
    simp only[reads]at hr;obtain⟨x,y,rfl,_,_,h0,h1⟩:=hr;refine⟨rfl,fun j hj=>?_⟩
    match j with
    | 0=>simpa [Value.cells]using h0
    | 1=>simpa [Value.cells]using h1
    | j+2=>omega
  refine⟨u::vs,by simp only[dF,bq];exact⟨hu,h1⟩,by simp only[de,List.length_append,hsz.1,h2];rw[ep];omega,fun j hj=>?_⟩
  simp only[de];by_cases hlt:j<es
  ·rw[eh (by rw[hsz.1];exact hlt)];exact hsz.2 j hlt
  ·rw[dV (by rw[hsz.1];omega),hsz.1,<-h3 (j-es) (by rw[ep]at hj;omega)]
   congr 1;rw[ep];omega
def nK(t:TypeId)(x:AV)(S:St)(K:AV->Prop):Prop:=match x with
 | .pat es y=>d9 t=some (es,1)/\K y
 | .ptr es b i=>(match S b with
  | some X=>(match d9 t with
   | some (es',k)=>es'=es/\X.es=es/\i+k<=X.n/\K (if k=1 then X.g i else .agg (dF X.g i k))
   | ac=>False)
  | ac=>False)
 | .fp b i f=>(match S b with
  | some X=>X.es=2/\i<X.n/\(match X.g i with
   | .big z=>if t=48/\f=1 then K (.mag z.natAbs)else if t=4/\f=0 then K (.bset (fun s=>sg s z.natAbs=z))else False
   | _=>False)
  | ac=>False)
 | _=>False
theorem pq{t:TypeId}{x:AV}{S:St}{K:AV->Prop}(h:nK t x S K){w:World}(hs:dN w S){vx:Value}(hx:bs w S.dom x vx) :
  ∃z v,K z/\bs w S.dom z v/\(Instr.loadAt t vx).run aj w=.ok v w:=by
 cases x with
 | pat es y =>
  simp only[nK]at h;simp only[bs]at hx;obtain⟨b,off,u,rfl,_,_,⟨cs,ty,fr,hb,hr⟩,hu⟩:=hx;exact⟨_,u,h.2,hu,pM hb h.1 hr⟩
 | ptr es b i =>
  simp only[nK]at h
  cases hX:S b with
  | none=>rw[hX]at h;exact h.elim
  | some X =>
   rw[hX]at h
   cases hk:d9 t with
   | none=>rw[hk]at h;exact h.elim
   | some p =>
    obtain⟨es',k⟩:=p;rw[hk]at h;obtain⟨rfl,rfl,hn,hK⟩:=h;simp only[bs]at hx;subst hx;obtain⟨cs,hb,hsz,hj,hnu⟩:=hs b X hX;by_cases hk1:k=1
    ·subst hk1;obtain⟨u,hr,hu⟩:=hj i om;rw[if_pos rfl]at hK;exact⟨_,u,hK,hu,pM hb hk hr⟩
    ·obtain⟨vs,h1,h2,h3⟩:=l7 hj k i hn;rw[if_neg hk1]at hK;have hr:bs w S.dom (.agg (dF X.g i k)) (.agg (vs.flatMap (fun u=>u.cells.toList)).toArray):=by
      simp only[bs];exact⟨vs,rfl,h1⟩
     refine⟨_,_,hK,hr,tw hb hk ?_ _ h2 (fun j hj=>h3 j (by rw[<-h2];exact hj))⟩
     obtain⟨_,he,hk0⟩:=pL hk;intro e;rcases he with e1|e1<;>rw[e1]at e<;>omega
 | fp b i f =>
  simp only[nK]at h
  cases hX:S b with
  | none=>rw[hX]at h;exact h.elim
  | some X =>
   rw[hX]at h;obtain⟨hes,hin,h⟩:=h;simp only[bs]at hx;subst hx;obtain⟨cs,hb,hsz,hj,hnu⟩:=hs b X hX;obtain⟨u,hr,hu⟩:=hj i hin;rw[hes]at hr
   cases hg:X.g i<;>rw[hg]at h hu<;>try exact h.elim
   rename_i z;simp only[bs]at hu;obtain⟨neg,A,n,c,xs,rfl,hnc,hU,hT,rfl⟩:=hu;obtain⟨x,y,he,ox,oy,c0,c1⟩:=hr
   cases he
   have hz:(sg neg (bv xs)).natAbs=bv xs:=by cases neg<;>simp[sg]
   simp only at h;split at h
   ·rename_i e;obtain⟨rfl,rfl⟩:=e;refine⟨_,.slice A n c,h,?_,pM hb (rfl:d9 48=some (1,1)) ⟨c1,oy⟩⟩;simp only[bs];exact⟨false,A,n,c,xs,rfl,hnc,hU,hT,by rw[hz];simp[sg]⟩
   ·split at h
    ·rename_i e;obtain⟨rfl,rfl⟩:=e;exact⟨_,.bool neg,h,by simp only[bs];exact⟨neg,rfl,by rw[hz]⟩,pM hb (rfl:d9 4=some (1,1)) ⟨c0,ox⟩⟩
    ·exact h.elim
 | _=>exact h.elim
def eT(w:World)(b:Nat)(cs:Array Value)(ty:TypeId):World:={ w with heap:=w.heap.setIfInBounds b (.cells cs ty (0,0)) }
theorem iB{w:World}{b:Nat}(hb:b<w.heap.size)(cs:Array Value)(ty:TypeId)(k:Nat):(eT w b cs ty).heap[k]? = if k=b then some (.cells cs ty (0,0))else w.heap[k]?:=by
 simp only[eT];by_cases e:k=b
 ·subst e;simp[hb]
 ·rw[if_neg e,cf (ao e)]
theorem zg(w:World)(b:Nat)(cs:Array Value)(ty:TypeId):(eT w b cs ty).heap.size=w.heap.size:=by simp[eT]
theorem zh{w:World}{b:Nat}{cs:Array Value}{ty:TypeId}(h:w.heap[b]? = some (.cells cs ty (0,0))):eT w b cs ty=w:=by
 unfold eT;have:w.heap.setIfInBounds b (.cells cs ty (0,0))=w.heap:=by
  apply pF;intro i;by_cases e:i=b
  ·subst e;rw[jV (dW h),h]
  ·rw[cf (ao e)]
 rw[this]
theorem tM(w:World)(b:Nat)(c1 c2:Array Value)(ty:TypeId):eT (eT w b c1 ty) b c2 ty=eT w b c2 ty:=by
 simp[eT]
theorem tO{w:World}{b off:Nat}{cs:Array Value}{ty:TypeId}(h:w.heap[b]? = some (.cells cs ty (0,0)))(u:Value):w.setCell ⟨b,off,ac⟩ u=eT w b (cs.setIfInBounds off u) ty:=by
 unfold World.setCell eT;congr 1;apply pF;intro i;rw[Array.getElem?_modify];by_cases e:b=i
 ·subst e;rw[if_pos rfl,h,jV (dW h)];rfl
 ·rw[if_neg e,cf e]
def d6(cs:Array Value)(o:Nat):List Value->Array Value
 | []=>cs
 | v::l=>d6 (cs.setIfInBounds o v) (o+1) l
theorem gk:∀(l:List Value) (cs:Array Value) (o:Nat),(d6 cs o l).size=cs.size
 | [],_,_=>rfl
 | v::l,cs,o=>by simp[d6,gk l]
theorem gF:∀(l:List Value) (cs:Array Value) (o j:Nat),o+l.length<=cs.size->(d6 cs o l)[j]? = if o<=j/\j<o+l.length then l[j-o]? else cs[j]?
 | [],cs,o,j,_=>by rw[if_neg (by simp only[jG];omega)];rfl
 | v::l,cs,o,j,h=>by
  simp only[cD]at h;rw[d6,gF l _ (o+1) j (by simp;omega)]
  by_cases e:j=o
  ·subst e;rw[if_neg om,if_pos sm,jV om];simp
  ·rw[cf (ao e)];by_cases h2:o+1<=j/\j<o+1+l.length
   ·rw[if_pos h2,if_pos (by simp;omega),(om:j-o=(j-(o+1))+1),bT]
   ·rw[if_neg h2,if_neg (by simp;omega)]
theorem i9(P:Program){b off:Nat}{ty:TypeId}:∀(l:List Value) (w:World) (cs:Array Value) (i:Nat),w.heap[b]? = some (.cells cs ty (0,0))->off+i+l.length<=cs.size->(∀u∈l,one u) ->
  (storeCells ⟨b,off,ac⟩ l i).run P w=.ok () (eT w b (d6 cs (off+i) l) ty)
 | [],w,cs,i,h,_,_=>by simp[storeCells,d6,zh h]
 | v::l,w,cs,i,h,hl,ho=>by
  simp only[cD]at hl;have hv:=ho v (er ..);have hcell:w.cell? ⟨b,off+i,ac⟩=cs[off+i]?:=mE h;have hin:cs[off+i]? = some cs[off+i]:=aG om;have hfr:w.frozen? ⟨b,off+i,ac⟩=false:=by simp[World.frozen?,h]
  have hst:(store ⟨b,off+i,ac⟩ v).run P w=.ok () (eT w b (cs.setIfInBounds (off+i) v) ty):=by
   cases v<;>first|exact hv.elim|simp[store,Sem.run,hcell,hin,hfr,tO h]
  have ih:=i9 P (b:=b) (off:=off) (ty:=ty) l (eT w b (cs.setIfInBounds (off+i) v) ty) (cs.setIfInBounds (off+i) v) (i+1)
   (by rw[iB (dW h),if_pos rfl]) (by simp;omega) (fun u hu=>ho u (dG _ hu))
  simp only[storeCells,gH,Sem.run_bind,hst,Result.andThen_ok,ih,tM,d6];rfl
def dI:Nat->AV->Prop
 | 1,.int k _=>k≠.u32
 | 1,.bool _=>True
 | 1,.nil=>True
 | 1,.sl ..=>True
 | 1,.ptr ..=>True
 | 1,.lst ..=>True
 | 1,.pat ..=>True
 | 1,.fn ..=>True
 | 1,.nfn=>True
 | 1,.mfn ..=>True
 | 2,.big _=>True
 | _,_=>False
theorem zz{w:World}{M:Nat->Prop}{es:Nat}{y:AV}{v:Value}(h:dI es y)(hr:bs w M y v) :
  (es=1/\one v/\kz v)∨(es=2/\∃p q,v=.agg #[p,q]/\one p/\one q/\kz p/\kz q):=by
 match es,y,h,hr with
 | 1,.int k n,h,hr =>
  simp only[bs]at hr;subst hr;refine bQ ⟨rfl,trivial,?_⟩
  cases k<;>first|trivial|exact absurd rfl h
 | 1,.bool _,h,hr=>simp only[bs]at hr;subst hr;exact bQ ⟨rfl,trivial,trivial⟩
 | 1,.nil,h,hr=>simp only[bs]at hr;subst hr;exact bQ ⟨rfl,trivial,trivial⟩
 | 1,.sl ..,h,hr=>simp only[bs]at hr;obtain⟨_,_,_,_,rfl,_⟩:=hr;exact bQ ⟨rfl,trivial,trivial⟩
 | 1,.ptr ..,h,hr=>simp only[bs]at hr;subst hr;exact bQ ⟨rfl,trivial,trivial⟩
 | 1,.lst ..,h,hr=>simp only[bs]at hr;obtain⟨_,_,rfl,_⟩:=hr;exact bQ ⟨rfl,trivial,trivial⟩
 | 1,.pat ..,h,hr=>simp only[bs]at hr;obtain⟨_,_,_,rfl,_⟩:=hr;exact bQ ⟨rfl,trivial,trivial⟩
 | 1,.fn ..,h,hr=>simp only[bs]at hr;obtain⟨_,rfl,_⟩:=hr;exact bQ ⟨rfl,trivial,trivial⟩
 | 1,.nfn,h,hr=>simp only[bs]at hr;subst hr;exact bQ ⟨rfl,trivial,trivial⟩
 | 1,.mfn ..,h,hr=>simp only[bs]at hr;obtain⟨_,rfl,_⟩:=hr;exact bQ ⟨rfl,trivial,trivial⟩
 | 2,.big z,h,hr =>
  simp only[bs]at hr;obtain⟨neg,A,n,c,xs,rfl,_⟩:=hr;exact bH ⟨rfl,_,_,rfl,trivial,trivial,trivial,trivial⟩
theorem pJ{w:World}{M:Nat->Prop}{es:Nat}{y:AV}{v:Value}(h:dI es y)(hr:bs w M y v) :
  v.cells.size=es/\(∀u∈v.cells.toList,one u/\kz u)/\∀(cs:Array Value) (o:Nat),(∀j,j<es->cs[o+j]? = v.cells[j]?)->reads cs o es v:=by
 rcases zz h hr with⟨rfl,h1,h2⟩|⟨rfl,p,q,rfl,h1,h2,h3,h4⟩
 ·rw[pP h1];refine⟨rfl,fun u hu=>by simp at hu;subst hu;exact⟨h1,h2⟩,fun cs o hc=>?_⟩
  have:=hc 0 om;simp only[reads];exact⟨by simpa using this,h1⟩
 ·refine⟨rfl,fun u hu=>?_,fun cs o hc=>?_⟩
  ·simp[Value.cells]at hu;rcases hu with rfl|rfl
   ·exact⟨h1,h3⟩
   ·exact⟨h2,h4⟩
  ·simp only[reads];exact⟨p,q,rfl,h1,h2,by simpa [Value.cells]using hc 0 om,by simpa [Value.cells]using hc 1 om⟩
theorem IX{S:St}{b:Nat}{X:dH}(h:S b≠ac):(S.upd b X).dom=S.dom:=by
 funext k;simp only[St.dom,St.upd];by_cases e:k=b
 ·subst e;simp[h]
 ·simp[e]
theorem dN.write{w:World}{S:St}(hs:dN w S){b:Nat}{X X':dH}(hX:S b=some X){cs cs':Array Value}(hb:w.heap[b]? = some (.cells cs X.ty (0,0)))(hsz:cs'.size=cs.size)
  (ht:X'.ty=X.ty) (hn:X'.es*X'.n<=cs'.size) (hj:∀j,j<X'.n->∃u,reads cs' (X'.es*j) X'.es u/\bs w S.dom (X'.g j) u) (hu:∀(k:Nat) (y:Value),cs'[k]? = some y->kz y) :
  dN (eT w b cs' X.ty) (S.upd b X')/\cw S.dom (S.upd b X').dom w (eT w b cs' X.ty):=by
 have hlt:=dW hb;have hd:(S.upd b X').dom=S.dom:=IX (by rw[hX];simp)
 have hg:cw S.dom (S.upd b X').dom w (eT w b cs' X.ty):=by
  rw[hd];refine⟨rfl,rfl,rfl,by rw[zg];exact ah _,fun k hk hm=>?_,fun k c ty fr hc=>?_,fun _ _ h=>h⟩
  ·rw[iB hlt,if_neg];intro e;subst e;exact hm (by simp[St.dom,hX])
  ·rw[iB hlt];by_cases e:k=b
   ·subst e;rw[hb]at hc;cases hc;exact⟨cs',by rw[if_pos rfl],hsz⟩
   ·exact⟨c,by rw[if_neg e];exact hc,rfl⟩
 refine⟨fun k Y hY=>?_,hg⟩;simp only[St.upd]at hY;by_cases e:k=b
 ·subst e;rw[if_pos rfl]at hY
  cases hY
  refine⟨cs',by rw[iB hlt,if_pos rfl,ht],hn,fun j hjn=>?_,hu⟩
  obtain⟨u,h1,h2⟩:=hj j hjn;exact⟨u,h1,bs.grow hs.noU hg _ _ h2⟩
 ·rw[if_neg e]at hY;obtain⟨c,h1,h2,h3,h4⟩:=hs k Y hY;refine⟨c,by rw[iB hlt,if_neg e];exact h1,h2,fun j hjn=>?_,h4⟩
  obtain⟨u,h5,h6⟩:=h3 j hjn;exact⟨u,h5,bs.grow hs.noU hg _ _ h6⟩
theorem dN.new{w:World}{S:St}(hs:dN w S){X:dH}{cs:Array Value}(hn:X.es*X.n<=cs.size)
  (hj:∀j,j<X.n->∃u,reads cs (X.es*j) X.es u/\bs w S.dom (X.g j) u) (hu:∀(k:Nat) (y:Value),cs[k]? = some y->kz y) :
  S w.heap.size=ac/\dN (w.alloc (.cells cs X.ty)) (S.upd w.heap.size X)/\cw S.dom (S.upd w.heap.size X).dom w (w.alloc (.cells cs X.ty)):=by
 have hnone:S w.heap.size=ac:=by
  cases e:S w.heap.size with
  | none=>rfl
  | some Y =>
   obtain⟨c,h1,_⟩:=hs _ Y e;exact absurd (dW h1) (Nat.lt_irrefl _)
 have hh:∀k,(w.alloc (.cells cs X.ty)).heap[k]? = if k=w.heap.size then some (.cells cs X.ty (0,0))else w.heap[k]?:=by
  intro k;show(w.heap.push _)[k]? = _;rw[Array.getElem?_push]
 have hg:cw S.dom (S.upd w.heap.size X).dom w (w.alloc (.cells cs X.ty)):=by
  refine⟨rfl,rfl,rfl,sm,fun k hk _=>?_,fun k c ty fr hc=>⟨c,?_,rfl⟩,fun k hk hm=>?_⟩
  ·rw[hh,if_neg om]
  ·rw[hh,if_neg (by have:=dW hc;omega)];exact hc
  ·simp only[St.dom,St.upd]at hm;rw[if_neg om]at hm;exact hm
 refine⟨hnone,fun k Y hY=>?_,hg⟩;simp only[St.upd]at hY;by_cases e:k=w.heap.size
 ·rw[if_pos e]at hY
  cases hY
  refine⟨cs,by rw[hh,if_pos e],hn,fun j hjn=>?_,hu⟩
  obtain⟨u,h1,h2⟩:=hj j hjn;exact⟨u,h1,bs.grow hs.noU hg _ _ h2⟩
 ·rw[if_neg e]at hY;obtain⟨c,h1,h2,h3,h4⟩:=hs k Y hY;refine⟨c,by rw[hh,if_neg e];exact h1,h2,fun j hjn=>?_,h4⟩
  obtain⟨u,h5,h6⟩:=h3 j hjn;exact⟨u,h5,bs.grow hs.noU hg _ _ h6⟩
def Az(s:Sem Value)(w:World)(S:St)(K:AV->St->Prop):Prop :=
 ∃z v w' S',K z S'/\bs w' S'.dom z v/\dN w' S'/\cw S.dom S'.dom w w'/\s.run aj w=.ok v w'
def bJ(g:Nat->AV)(i:Nat)(y:AV):Nat->AV:=fun j=>if j=i then y else g j
def ib(g:Nat->AV)(i:Nat)(l:List AV):Nat->AV:=fun j=>if i<=j/\j<i+l.length then l.getD (j-i) .any else g j
def oh(t:TypeId)(x y:AV)(S:St)(K:St->Prop):Prop:=match x with
 | .ptr es b i=>(match S b with
  | some X=>(match d9 t with
   | some (es',k)=>es'=es/\X.es=es/\i+k<=X.n/\(if k=1 then dI es y/\K (S.upd b { X with g:=bJ X.g i y })else(match y with
    | .agg l=>l.length=k/\(∀z∈l,dI es z)/\K (S.upd b { X with g:=ib X.g i l })
    | _=>False))
   | ac=>False)
  | ac=>False)
 | _=>False
theorem gD{w:World}{M:Nat->Prop}{es:Nat}:∀(l:List AV) (vs:List Value),bq w M l vs->(∀z∈l,dI es z) ->
  vs.length=l.length/\(vs.flatMap (fun u=>u.cells.toList)).length=es*l.length/\(∀u∈vs.flatMap (fun u=>u.cells.toList),one u/\kz u) /\
  ∀j,j<l.length->∃u,bs w M (l.getD j .any) u/\∀(cs:Array Value) (o:Nat),(∀q,q<es*l.length->cs[o+q]? = (vs.flatMap (fun u=>u.cells.toList))[q]?)->reads cs (o+es*j) es u
 | [],[],_,_=>⟨rfl,sm,sm,fun j hj=>by simp at hj⟩
 | a::l,v::vs,hr,hs=>by
  simp only[bq]at hr;have ha:=hs a (er ..);obtain⟨h1,h2,h3⟩:=pJ ha hr.1;obtain⟨i1,i2,i3,i4⟩:=gD l vs hr.2 (fun z hz=>hs z (dG _ hz));have h1':v.cells.toList.length=es:=by simpa using h1
  refine⟨by simp[i1],by simp only[de,List.length_append,h1',i2,cD];rw[ep];omega,fun u hu=>?_,fun j hj=>?_⟩
  ·simp only[de,List.mem_append]at hu;rcases hu with hu|hu
   ·exact h2 u hu
   ·exact i3 u hu
  ·simp only[cD]at hj
   cases j with
   | zero =>
    refine⟨v,by simpa using hr.1,fun cs o hc=>?_⟩
    rw[dT,dd];refine h3 cs o (fun q hq=>?_);rw[hc q (by rw[cD,ep];omega),de,eh om]
    simp
   | succ j =>
    obtain⟨u,hu1,hu2⟩:=i4 j om;refine⟨u,by simpa using hu1,fun cs o hc=>?_⟩
    have:=hu2 cs (o+es) (fun q hq=>by
     have h5:=hc (es+q) (by rw[cD,ep];omega)
     rw[de,dV om,h1',(om:es+q-es=q)]at h5
     rw[<-h5];congr 1;omega)
    rw[ep,(om:o+(es*j+es)=o+es+es*j)]
    exact this
 | [],_::_,h,_=>by simp[bq]at h
 | _::_,[],h,_=>by simp[bq]at h
theorem jx{cs cs':Array Value}{o es:Nat}{u:Value}(h:reads cs o es u)(hsame:∀q,q<es->cs'[o+q]? = cs[o+q]?):reads cs' o es u:=by
 match es,h with
 | 1,h=>simp only[reads]at h ⊢;have:=hsame 0 om;simp only[dd]at this;exact⟨by rw[this];exact h.1,h.2⟩
 | 2,h =>
  simp only[reads]at h ⊢;obtain⟨x,y,e,h1,h2,h3,h4⟩:=h;have s0:=hsame 0 om;have s1:=hsame 1 om;simp only[dd]at s0;exact⟨x,y,e,h1,h2,by rw[s0];exact h3,by rw[s1];exact h4⟩
theorem oT{w:World}{S:St}(hs:dN w S){b:Nat}{X:dH}(hX:S b=some X)(l:List AV)(vs:List Value)(hr:bq w S.dom l vs)(hl:∀z∈l,dI X.es z)(i:Nat)(hi:i+l.length<=X.n) :
  ∃cs,w.heap[b]? = some (.cells cs X.ty (0,0))/\X.es*i+(vs.flatMap (fun u=>u.cells.toList)).length<=cs.size/\(∀u∈vs.flatMap (fun u=>u.cells.toList),one u) /\
   dN (eT w b (d6 cs (X.es*i) (vs.flatMap (fun u=>u.cells.toList))) X.ty) (S.upd b { X with g:=ib X.g i l }) /\
   cw S.dom (S.upd b { X with g:=ib X.g i l }).dom w (eT w b (d6 cs (X.es*i) (vs.flatMap (fun u=>u.cells.toList))) X.ty):=by
 obtain⟨cs,hb,hsz,hj,hu⟩:=hs b X hX;obtain⟨l1,l2,l3,l4⟩:=gD l vs hr hl;have hfit:X.es*i+(vs.flatMap (fun u=>u.cells.toList)).length<=cs.size:=by
  rw[l2,<-cI];exact bV (a9 _ hi) hsz
 refine⟨cs,hb,hfit,fun u hu=>(l3 u hu).1,?_⟩;refine dN.write hs hX hb (gk _ _ _) rfl (by rw[gk];exact hsz) (fun j hjn=>?_) (fun k y hy=>?_)
 ·show ∃u,reads _ (X.es*j) X.es u/\bs w S.dom (ib X.g i l j) u;unfold ib;by_cases hin:i<=j/\j<i+l.length
  ·rw[if_pos hin];obtain⟨u,h1,h2⟩:=l4 (j-i) om;refine⟨u,?_,h1⟩;have:=h2 (d6 cs (X.es*i) (vs.flatMap (fun u=>u.cells.toList))) (X.es*i) (fun q hq=>by
    rw[gF _ _ _ _ hfit,if_pos (by rw[l2];omega)];congr 1;omega)
   rw[<-cI,(om:i+(j-i)=j)]at this
   exact this
  ·rw[if_neg hin];obtain⟨u,h1,h2⟩:=hj j hjn;refine⟨u,jx h1 (fun q hq=>?_),h2⟩;rw[gF _ _ _ _ hfit,if_neg];rw[l2];intro hc;have hji:j<i∨i+l.length<=j:=om
   rcases hji with h|h
   ·have:X.es*(j+1)<=X.es*i:=a9 _ h;rw[ep]at this;omega
   ·have:X.es*(i+l.length)<=X.es*j:=a9 _ h;rw[cI]at this;omega
 ·rw[gF _ _ _ _ hfit]at hy;split at hy
  ·exact(l3 y (cC hy)).2
  ·exact hu k y hy
theorem Fa(g:Nat->AV)(i:Nat)(y:AV):ib g i [y]=bJ g i y:=by
 funext j;simp only[ib,bJ,cD,jG];by_cases e:j=i
 ·subst e;rw[if_pos om,if_pos rfl];simp
 ·rw[if_neg om,if_neg e]
theorem tv{w:World}{b off t es k:Nat}{cs:Array Value}{ty:TypeId}(h:w.heap[b]? = some (.cells cs ty (0,0)))(ht:d9 t=some (es,k))(v:Value)(hl:v.cells.size=es*k)
  (hfit:off+v.cells.size<=cs.size) (ho:∀u∈v.cells.toList,one u) :
  (Instr.storeAt t (.pointer (some ⟨b,off,ac⟩)) v).run aj w=.ok () (eT w b (d6 cs off v.cells.toList) ty):=by
 obtain⟨hch,_,_⟩:=pL ht;obtain⟨i,d,hi,hs,hd,hx⟩:=uP hch;have h1:=i9 aj (b:=b) (off:=off) (ty:=ty) v.cells.toList w cs 0 h (by simpa using hfit) ho
 rw[dd]at h1;have hne:¬(v.cells.size≠i.size):=by rw[hs,hl];simp
 simp only[Instr.storeAt,Instr.sureAddr,pure_bind,storeVar,Sem.run_bind,cB hi,Result.andThen_ok];rw[if_neg hne];simp[h1]
theorem Al{t:TypeId}{x y:AV}{S:St}{K:St->Prop}(h:oh t x y S K){w:World}(hs:dN w S){vx vy:Value}(hx:bs w S.dom x vx)(hy:bs w S.dom y vy) :
  ∃w' S',K S'/\dN w' S'/\cw S.dom S'.dom w w'/\(Instr.storeAt t vx vy).run aj w=.ok () w':=by
 cases x with
 | ptr es b i =>
  simp only[oh]at h
  cases hX:S b with
  | none=>rw[hX]at h;exact h.elim
  | some X =>
   rw[hX]at h
   cases hk:d9 t with
   | none=>rw[hk]at h;exact h.elim
   | some p =>
    obtain⟨es',k⟩:=p;rw[hk]at h;obtain⟨rfl,rfl,hn,hK⟩:=h;simp only[bs]at hx;subst hx;by_cases hk1:k=1
    ·subst hk1;rw[if_pos rfl]at hK;obtain⟨cs,hb,hfit,ho,hS,hG⟩:=oT hs hX [y] [vy] (by simp only[bq];exact⟨hy,trivial⟩) (fun z hz=>by simp at hz;subst hz;exact hK.1) i (by simpa using hn)
     simp only[de,List.flatMap_nil,List.append_nil]at hfit ho hS hG;rw[Fa]at hS hG;refine⟨_,_,hK.2,hS,hG,?_⟩;obtain⟨h1,_,_⟩:=pJ hK.1 hy;exact tv hb hk vy (by rw[h1,Nat.mul_one]) (by simpa using hfit) ho
    ·rw[if_neg hk1]at hK
     cases y with
     | agg l =>
      simp only at hK;obtain⟨hl,hst,hK⟩:=hK;simp only[bs]at hy;obtain⟨vs,rfl,hr⟩:=hy;obtain⟨cs,hb,hfit,ho,hS,hG⟩:=oT hs hX l vs hr hst i (by rw[hl];exact hn)
      refine⟨_,_,hK,hS,hG,?_⟩;obtain⟨_,l2,_,_⟩:=gD l vs hr hst;generalize vs.flatMap (fun u=>u.cells.toList)=fl at hfit ho l2 ⊢;exact tv (off:=X.es*i) hb hk (.agg fl.toArray) (by show fl.toArray.size=_;rw[bX,l2,hl]) (by show _+fl.toArray.size<=_;rw[bX];exact hfit) ho
     | _=>exact hK.elim
 | _=>exact h.elim
theorem d7.zero(w:World):d7 w w.heap.size (.agg #[.bool false,.slice ac 0 0]) 0 :=
 ⟨false,ac,0,0,[],rfl,ah _,⟨rfl,by simp[mo],fun h=>absurd h om⟩,by intro x hx;simp at hx,by simp[bv,sg]⟩
def fD:TypeId->Option (Nat×AV×Value)
 | 2=>some (1,.int .i64 0,.int .i64 0)
 | 3=>some (1,.int .i64 0,.int .i64 0)
 | 4=>some (1,.bool false,.bool false)
 | 28=>some (1,.nil,.slice ac 0 0)
 | 29=>some (1,.nil,.slice ac 0 0)
 | 52=>some (1,.nil,.slice ac 0 0)
 | 59=>some (1,.nil,.slice ac 0 0)
 | 50=>some (2,.big 0,.agg #[.bool false,.slice ac 0 0])
 | _=>ac
def lh(P:Program)(t:TypeId):Option (Value×Nat×Nat):=(P.info? t).bind fun i=>i.zero.map fun z=>(z,i.size,i.bytes)
theorem ni{t es:Nat}{x:AV}{z:Value}(h:fD t=some (es,x,z)):∃i,aj.info? t=some i/\i.zero=some z/\i.size=es/\i.bytes<=32/\0<es/\z.cells.size=es/\dI es x/\∀w M,bs w M x z:=by
 have key:∀(z':Value) (s b:Nat),lh aj t=some (z',s,b)->b<=32->∃i,aj.info? t=some i/\i.zero=some z'/\i.size=s/\i.bytes<=32:=by
  intro z' s b hc hb;unfold lh at hc
  cases hi:aj.info? t with
  | none=>rw[hi]at hc;simp at hc
  | some i =>
   rw[hi]at hc;simp only[da,cr,Prod.mk.injEq]at hc;obtain⟨z2,h1,h2,h3,h4⟩:=hc;exact⟨i,rfl,by rw[h1,h2],h3,om⟩
 unfold fD at h;split at h
 ·cases h;obtain⟨i,h1,h2,h3,h4⟩:=key (.int .i64 0) 1 8 kr om;exact⟨i,h1,h2,h3,h4,om,rfl,by simp[dI],fun w M=>by simp[bs]⟩
 ·cases h;obtain⟨i,h1,h2,h3,h4⟩:=key (.int .i64 0) 1 8 kr om;exact⟨i,h1,h2,h3,h4,om,rfl,by simp[dI],fun w M=>by simp[bs]⟩
 ·cases h;obtain⟨i,h1,h2,h3,h4⟩:=key (.bool false) 1 1 kr om;exact⟨i,h1,h2,h3,h4,om,rfl,by simp[dI],fun w M=>by simp[bs]⟩
 ·cases h;obtain⟨i,h1,h2,h3,h4⟩:=key (.slice ac 0 0) 1 24 kr om;exact⟨i,h1,h2,h3,h4,om,rfl,by simp[dI],fun w M=>by simp[bs]⟩
 ·cases h;obtain⟨i,h1,h2,h3,h4⟩:=key (.slice ac 0 0) 1 24 kr om;exact⟨i,h1,h2,h3,h4,om,rfl,by simp[dI],fun w M=>by simp[bs]⟩
 ·cases h;obtain⟨i,h1,h2,h3,h4⟩:=key (.slice ac 0 0) 1 24 kr om;exact⟨i,h1,h2,h3,h4,om,rfl,by simp[dI],fun w M=>by simp[bs]⟩
 ·cases h;obtain⟨i,h1,h2,h3,h4⟩:=key (.slice ac 0 0) 1 24 kr om;exact⟨i,h1,h2,h3,h4,om,rfl,by simp[dI],fun w M=>by simp[bs]⟩
 ·cases h;obtain⟨i,h1,h2,h3,h4⟩:=key (.agg #[.bool false,.slice ac 0 0]) 2 32 kr om;exact⟨i,h1,h2,h3,h4,om,rfl,by simp[dI],fun w M=>by simp only[bs];exact d7.zero w⟩
 ·cases h
theorem kL{w:World}{S:St}(hs:dN w S){es:Nat}(t:TypeId)(l:List AV)(vs:List Value)(hr:bq w S.dom l vs)(hl:∀z∈l,dI es z) :
  S w.heap.size=ac/\dN (w.alloc (.cells (vs.flatMap (fun u=>u.cells.toList)).toArray t)) (S.upd w.heap.size ⟨t,es,l.length,fun j=>l.getD j .any⟩) /\
   cw S.dom (S.upd w.heap.size ⟨t,es,l.length,fun j=>l.getD j .any⟩).dom w (w.alloc (.cells (vs.flatMap (fun u=>u.cells.toList)).toArray t))/\(vs.flatMap (fun u=>u.cells.toList)).length=es*l.length:=by
 obtain⟨l1,l2,l3,l4⟩:=gD l vs hr hl;have:=dN.new hs (X:=⟨t,es,l.length,fun j=>l.getD j .any⟩) (cs:=(vs.flatMap (fun u=>u.cells.toList)).toArray) (by simp only[bX];rw[l2];exact ah _) (fun j hj=>by
   obtain⟨u,h1,h2⟩:=l4 j hj;refine⟨u,?_,h1⟩;have:=h2 (vs.flatMap (fun u=>u.cells.toList)).toArray 0 (fun q _=>by simp)
   simpa using this) (fun k y hy=>by
   rw[fG]at hy;exact(l3 y (cC hy)).2)
 exact⟨this.1,this.2.1,this.2.2,l2⟩
theorem jh{w:World}{M:Nat->Prop}{x:AV}{v:Value}(h:bs w M x v):∀n,bq w M (bR n x) (bR n v)
 | 0=>by simp[bq]
 | n+1=>by simp only[kW,bq];exact⟨h,jh h n⟩
theorem dN.reg{w:World}{S:St}{b:Nat}{X Y:dH}(h:dN w (S.upd b X))(h1:Y.ty=X.ty)(h2:Y.es=X.es)(h3:Y.n=X.n)(h4:∀j,j<X.n->Y.g j=X.g j):dN w (S.upd b Y)/\(S.upd b Y).dom=(S.upd b X).dom:=by
 have hd:(S.upd b Y).dom=(S.upd b X).dom:=by
  funext k;simp only[St.dom,St.upd];by_cases e:k=b<;>simp[e]
 refine⟨fun k Z hZ=>?_,hd⟩;rw[hd];simp only[St.upd]at hZ;by_cases e:k=b
 ·rw[if_pos e]at hZ
  cases hZ
  obtain⟨cs,c1,c2,c3,c4⟩:=h k X (by simp[St.upd,e])
  refine⟨cs,by rw[h1];exact c1,by rw[h2,h3];exact c2,fun j hj=>?_,c4⟩
  rw[h3]at hj;obtain⟨u,u1,u2⟩:=c3 j hj;rw[h2,h4 j hj];exact⟨u,u1,u2⟩
 ·rw[if_neg e]at hZ;exact h k Z (by simp[St.upd,e,hZ])
theorem vT{n j:Nat}(h:j<n)(x d:AV):(bR n x).getD j d=x:=by simp[cL,h]
def lD(t:TypeId)(S:St)(K:AV->St->Prop):Prop:=match fD t with
 | some (es,x,_)=>∀b,S b=ac->K (.ptr es b 0) (S.upd b ⟨t,es,1,fun _=>x⟩)
 | ac=>(match t with
  | 167=>∀b,S b=ac->K (.ptr 2 b 0) (S.upd b ⟨167,2,2,fun _=>.big 0⟩)
  | 197=>∀b,S b=ac->K (.ptr 2 b 0) (S.upd b ⟨197,2,7,fun _=>.big 0⟩)
  | 218=>∀b,S b=ac->K (.ptr 1 b 0) (S.upd b ⟨218,1,2,fun j=>if j=0 then .nil else .int .i64 0⟩)
  | 202=>∀b,S b=ac->K (.ptr 1 b 0) (S.upd b ⟨202,1,2,fun _=>.int .u64 0⟩)
  | _=>False)
theorem yo{t:TypeId}{i:TypeInfo}{z:Value}(hi:aj.info? t=some i)(hz:i.zero=some z)(w:World) :
  (Instr.alloc t true (.tuple #[])).run aj w=.ok (.pointer (some ⟨w.heap.size,0,ac⟩)) (w.alloc (.cells z.cells t)):=by
 simp[Instr.alloc,zeroValue,typeInfo,hi,hz,newVar,newRow]
theorem mg{w:World}{S:St}(hs:dN w S){t es:Nat}(l:List AV)(vs:List Value){i:TypeInfo}{z:Value}(hi:aj.info? t=some i)(hz:i.zero=some z)(hv:z.cells=(vs.flatMap (fun u=>u.cells.toList)).toArray)
  (hr:bq w S.dom l vs) (hl:∀y∈l,dI es y) (Y:dH) (h1:Y.ty=t) (h2:Y.es=es) (h3:Y.n=l.length) (h4:∀j,j<l.length->Y.g j=l.getD j .any) {K:AV->St->Prop} (hK:∀b,S b=ac->K (.ptr es b 0) (S.upd b Y)) :
  Az (Instr.alloc t true (.tuple #[])) w S K:=by
 obtain⟨n1,n2,n3,_⟩:=kL hs t l vs hr hl;obtain⟨r1,r2⟩:=dN.reg n2 (Y:=Y) h1 h2 h3 h4;refine⟨_,.pointer (some ⟨w.heap.size,0,ac⟩),_,_,hK _ n1,by simp[bs],r1,by rw[r2];exact n3,?_⟩
 rw[yo hi hz,hv]
theorem Ap{t:TypeId}{S:St}{K:AV->St->Prop}(h:lD t S K){w:World}(hs:dN w S):Az (Instr.alloc t true (.tuple #[])) w S K:=by
 have key:∀(z':Value) (s b:Nat),lh aj t=some (z',s,b)->∃i,aj.info? t=some i/\i.zero=some z':=by
  intro z' s b hc;unfold lh at hc
  cases hi:aj.info? t with
  | none=>rw[hi]at hc;simp at hc
  | some i =>
   rw[hi]at hc;simp only[da,cr,Prod.mk.injEq]at hc;obtain⟨z2,h1,h2,h3,h4⟩:=hc;exact⟨i,rfl,by rw[h1,h2]⟩
 unfold lD at h
 cases hz:fD t with
 | some p =>
  obtain⟨es,x,z⟩:=p;rw[hz]at h;obtain⟨i,h1,h2,h3,h4,h5,h6,h7,h8⟩:=ni hz;exact mg hs [x] [z] h1 h2 sm (by simp only[bq];exact⟨h8 _ _,trivial⟩) (fun y hy=>by simp at hy;subst hy;exact h7) ⟨t,es,1,fun _=>x⟩ rfl rfl rfl (fun j hj=>by simp at hj;subst hj;rfl) h
 | none =>
  rw[hz]at h;have zb:∀M,bs w M (.big 0) (.agg #[.bool false,.slice ac 0 0]):=fun M=>by simp only[bs];exact d7.zero w
  simp only at h;split at h
  ·obtain⟨i,h1,h2⟩:=key (.agg #[.bool false,.slice ac 0 0,.bool false,.slice ac 0 0]) 4 64 kr
   exact mg hs (bR 2 (.big 0)) (bR 2 (.agg #[.bool false,.slice ac 0 0])) h1 h2 rfl (jh (zb _) 2) (fun y hy=>by rw[gC hy];simp[dI]) ⟨167,2,2,fun _=>.big 0⟩ rfl rfl rfl
    (fun j hj=>(vT (by rw[mI]at hj;exact hj) _ _).symm) h
  ·obtain⟨i,h1,h2⟩:=key (.agg (bR 7 [.bool false,.slice ac 0 0]).flatten.toArray) 14 224 kr
   exact mg hs (bR 7 (.big 0)) (bR 7 (.agg #[.bool false,.slice ac 0 0])) h1 h2 rfl (jh (zb _) 7) (fun y hy=>by rw[gC hy];simp[dI]) ⟨197,2,7,fun _=>.big 0⟩ rfl rfl rfl
    (fun j hj=>(vT (by rw[mI]at hj;exact hj) _ _).symm) h
  ·obtain⟨i,h1,h2⟩:=key (.agg #[.slice ac 0 0,.int .i64 0]) 2 32 kr
   exact mg hs [.nil,.int .i64 0] [.slice ac 0 0,.int .i64 0] h1 h2 rfl (by simp[bq,bs]) (fun y hy=>by simp at hy;rcases hy with rfl|rfl<;>simp[dI]) ⟨218,1,2,fun j=>if j=0 then .nil else .int .i64 0⟩ rfl rfl rfl
    (fun j hj=>by match j with
     | 0=>rfl
     | 1=>rfl
     | j+2=>exact absurd hj (by simp only[cD,jG];omega)) h
  ·obtain⟨i,h1,h2⟩:=key (.agg #[.int .u64 0,.int .u64 0]) 2 16 kr
   exact mg hs [.int .u64 0,.int .u64 0] [.int .u64 0,.int .u64 0] h1 h2 rfl (by simp[bq,bs]) (fun y hy=>by simp at hy;subst hy;simp[dI]) ⟨202,1,2,fun _=>.int .u64 0⟩ rfl rfl rfl
    (fun j hj=>by match j with
     | 0=>rfl
     | 1=>rfl
     | j+2=>exact absurd hj (by simp only[cD,jG];omega)) h
  ·exact h.elim
def jg(t:TypeId)(x:AV)(S:St)(K:AV->St->Prop):Prop:=match d9 t with
 | some (es,k)=>if k=1 then dI es x/\∀b,S b=ac->K (.ptr es b 0) (S.upd b ⟨t,es,1,fun _=>x⟩)else(match x with
  | .agg l=>l.length=k/\(∀z∈l,dI es z)/\∀b,S b=ac->K (.ptr es b 0) (S.upd b ⟨t,es,k,fun j=>l.getD j .any⟩)
  | _=>False)
 | ac=>False
theorem D6(t:TypeId)(v:Value)(w:World):(Instr.box t v).run aj w=.ok (.pointer (some ⟨w.heap.size,0,ac⟩)) (w.alloc (.cells v.cells t)):=by
 simp[Instr.box,newVar,newRow]
theorem DB{t:TypeId}{x:AV}{S:St}{K:AV->St->Prop}(h:jg t x S K){w:World}(hs:dN w S){v:Value}(hx:bs w S.dom x v):Az (Instr.box t v) w S K:=by
 unfold jg at h
 cases hk:d9 t with
 | none=>rw[hk]at h;exact h.elim
 | some p =>
  obtain⟨es,k⟩:=p;rw[hk]at h;simp only at h;by_cases hk1:k=1
  ·rw[if_pos hk1]at h;obtain⟨n1,n2,n3,_⟩:=kL hs t [x] [v] (by simp only[bq];exact⟨hx,trivial⟩) (fun z hz=>by simp at hz;subst hz;exact h.1)
   obtain⟨r1,r2⟩:=dN.reg n2 (Y:=⟨t,es,1,fun _=>x⟩) rfl rfl rfl (fun j hj=>by simp at hj;subst hj;rfl)
   refine⟨_,.pointer (some ⟨w.heap.size,0,ac⟩),_,_,h.2 _ n1,by simp[bs],r1,by rw[r2];exact n3,?_⟩
   rw[D6];simp
  ·rw[if_neg hk1]at h
   cases x with
   | agg l =>
    simp only at h;obtain⟨hl,hst,hK⟩:=h;simp only[bs]at hx;obtain⟨vs,rfl,hr⟩:=hx;obtain⟨n1,n2,n3,_⟩:=kL hs t l vs hr hst;rw[hl]at n2 n3;exact⟨_,.pointer (some ⟨w.heap.size,0,ac⟩),_,_,hK _ n1,by simp[bs],n2,n3,D6 ..⟩
   | _=>exact h.elim
def c9:TypeId->Option TypeId
 | 22=>some 41
 | 28=>some 29
 | 29=>some 2
 | 52=>some 59
 | 59=>some 50
 | 146=>some 3
 | 192=>some 52
 | 216=>some 59
 | _=>ac
def bP:TypeId->Nat
 | 50=>2
 | _=>1
def eChk(P:Program)(t:TypeId):Option (TypeId×Nat):=(P.underlying t).bind fun
 | .slice e=>(P.info? e).map fun i=>(e,i.size)
 | _=>ac
theorem im{t e:TypeId}(h:c9 t=some e):aj.underlying t=some (.slice e)/\∃i,aj.info? e=some i/\i.size=bP e:=by
 have key:∀s,eChk aj t=some (e,s)->aj.underlying t=some (.slice e)/\∃i,aj.info? e=some i/\i.size=s:=by
  intro s hc;unfold eChk at hc
  cases hu:aj.underlying t with
  | none=>rw[hu]at hc;simp at hc
  | some d =>
   rw[hu]at hc
   cases d<;>simp only[da,cr,Prod.mk.injEq,reduceCtorEq]at hc
   obtain⟨i,h1,rfl,h3⟩:=hc;exact⟨rfl,i,h1,h3⟩
 unfold c9 at h;split at h<;>first
  | (cases h;exact key _ kr)
  | cases h
def oi(t:TypeId)(x i:AV)(K:AV->Prop):Prop:=match c9 t,x,i with
 | some e,.sl es b off len,.int _ n=>es=bP e/\(0<=n/\n<(len:Int))/\K (.ptr es b (off+n.toNat))
 | some e,.lst es len g,.int _ n=>es=bP e/\(0<=n/\n<(len:Int))/\K (.pat es (g n.toNat))
 | ac,.ptr es b k,.int _ n=>(es=2/\t=195)/\(0<=n/\n<2)/\K (.ptr 2 b (k+n.toNat))
 | _,_,_=>False
theorem tz{t e:TypeId}(he:c9 t=some e)(w:World)(b off len cap:Nat)(k:IntKind)(n:Int)(h0:0<=n)(h1:n<(len:Int)) :
  (Instr.indexAt t (.slice (some ⟨b,off,ac⟩) len cap) (.int k n)).run aj w=.ok (.pointer (some ⟨b,off+n.toNat*bP e,ac⟩)) w:=by
 obtain⟨hu,i,hi,hs⟩:=im he;have hc:0<=n/\n<(len:Int):=⟨h0,h1⟩;simp[Instr.indexAt,asIntOf,run_underlying hu,cB hi,hs,gH,hc]
theorem rI{t:TypeId}{x y:AV}{K:AV->Prop}(h:oi t x y K){w:World}{M:Nat->Prop}{vx vy:Value}(hx:bs w M x vx)(hy:bs w M y vy) :
  ∃z v,K z/\bs w M z v/\(Instr.indexAt t vx vy).run aj w=.ok v w:=by
 unfold oi at h;split at h
 ·rename_i e es b off len k n he;obtain⟨rfl,⟨h0,h1⟩,hK⟩:=h;simp only[bs]at hx hy;obtain⟨cap,cs,ty,fr,rfl,_,_,_⟩:=hx;subst hy;refine⟨_,_,hK,?_,tz he w b _ len cap k n h0 h1⟩;simp only[bs];rw[cI,aS (bP e) n.toNat]
 ·rename_i e es len g k n he;obtain⟨rfl,⟨h0,h1⟩,hK⟩:=h;simp only[bs]at hx hy;obtain⟨A,c,rfl,hc,hb⟩:=hx;subst hy;obtain⟨b,off,rfl,hlt,hm,hj⟩:=hb om;obtain⟨u,hr,hu⟩:=hj n.toNat om;refine⟨_,_,hK,?_,tz he w b _ len c k n h0 h1⟩;simp only[bs];exact⟨b,_,u,by rw[aS],hlt,hm,by rw[aS];rw[aS]at hr;exact hr,hu⟩
 ·rename_i es b k kk n he;obtain⟨⟨rfl,rfl⟩,⟨h0,h1⟩,hK⟩:=h;simp only[bs]at hx hy;subst hx hy;obtain⟨hu,i,hi,hs⟩:=im (t:=59) (e:=50) rfl;refine⟨_,.pointer (some ⟨b,2*k+n.toNat*2,ac⟩),hK,?_,?_⟩
  ·simp only[bs];rw[cI,aS n.toNat]
  ·have hc:0<=n/\n<2:=⟨h0,h1⟩;simp[Instr.indexAt,Instr.sureAddr,asIntOf,run_underlying underlying195,cB hi,hs,gH,hc,bP]
 ·exact h.elim
def jU(t:TypeId)(x y:AV)(S:St)(K:AV->St->Prop):Prop:=match c9 t,x with
 | some e,.int _ n=>(match fD e with
  | some (es,z,_)=>x=y/\es=bP e/\(0<=n/\n<=1099511627776)/\∀b,S b=ac->K (.sl es b 0 n.toNat) (S.upd b ⟨e,es,n.toNat,fun _=>z⟩)
  | ac=>False)
 | _,_=>False
theorem lH(z:Value)(n:Nat):madeCells z.cells (n*z.cells.size)=((bR n z).flatMap (fun u=>u.cells.toList)).toArray:=by
 apply pF;intro i;simp only[madeCells,Array.getElem?_map,fG]
 induction n generalizing i with
 | zero=>simp
 | succ n ih =>
  simp only[kW,de];by_cases h:i<z.cells.size
  ·rw[eh (by simpa using h)]
   have h2:i<(n+1)*z.cells.size:=by rw[ia];omega
   simp[h2,Nat.mod_eq_of_lt h,h]
  ·rw[dV (by simp;omega)]
   have:=ih (i-z.cells.size);simp only[Array.length_toList];rw[<-this];by_cases h2:i<(n+1)*z.cells.size
   ·have h3:i-z.cells.size<n*z.cells.size:=by rw[ia]at h2;omega
    have h4:i%z.cells.size=(i-z.cells.size)%z.cells.size:=by
     rw[Nat.mod_eq_sub_mod om]
    simp[h2,h3,h4]
   ·have h3:¬i-z.cells.size<n*z.cells.size:=by rw[ia]at h2;omega
    simp[h2,h3]
theorem Cc{t:TypeId}{x y:AV}{S:St}{K:AV->St->Prop}(h:jU t x y S K){w:World}(hs:dN w S){vx vy:Value}(hx:bs w S.dom x vx)(hy:bs w S.dom y vy):Az (Instr.makeSlice t vx vy) w S K:=by
 unfold jU at h;split at h
 ·rename_i e k n he
  cases hz:fD e with
  | none=>rw[hz]at h;exact h.elim
  | some p =>
   obtain⟨es,z,zv⟩:=p;rw[hz]at h;obtain⟨rfl,rfl,⟨h0,h1⟩,hK⟩:=h;obtain⟨hu,i,hi,hsz⟩:=im he;obtain⟨i',g1,g2,g3,g4,g5,g6,g7,g8⟩:=ni hz;rw[hi]at g1;cases g1;simp only[bs]at hx hy;subst hx hy;have hb:(i.bytes:Int)*n<=281474976710656:=by
    have h3:(i.bytes:Int)*n<=32*n:=Int.mul_le_mul_of_nonneg_right om h0;omega
   have hrun:=run_make (P:=aj) w t e i zv hu hi g2 k k n n h0 (Int.le_refl _) hb om;obtain⟨n1,n2,n3,n4⟩:=kL hs e (bR n.toNat z) (bR n.toNat zv) (jh (g8 _ _) _) (fun y hy=>by rw[gC hy];exact g7)
   rw[mI]at n2 n3 n4;obtain⟨r1,r2⟩:=dN.reg n2 (Y:=⟨e,bP e,n.toNat,fun _=>z⟩) rfl rfl rfl (fun j hj=>by simp only at hj;simp[cL,hj])
   rw[g3,<-g6,lH zv n.toNat]at hrun;refine⟨_,_,_,_,hK _ n1,?_,r1,by rw[r2];exact n3,hrun⟩
   simp only[bs];refine⟨n.toNat,_,e,(0,0),by rw[dT],ah _,heap_alloc_new w _,?_⟩
   simp only[bX];rw[n4];simp
 ·exact h.elim
def fC:TypeId->Nat->Option (Nat×Nat)
 | 24,0=>some (1,0)|24,1=>some (1,1)|24,2=>some (1,2)|24,3=>some (1,3)
 | 27,0=>some (1,0)|27,1=>some (1,4)|27,2=>some (1,5)
 | 107,0=>some (1,0)|107,1=>some (1,1)
 | 160,0=>some (1,0)|160,1=>some (1,1)|160,2=>some (1,2)|160,3=>some (1,3)
 | 167,0=>some (2,0)|167,1=>some (2,1)
 | 183,0=>some (1,0)|183,1=>some (1,1)
 | 197,0=>some (2,0)|197,1=>some (2,1)|197,2=>some (2,2)|197,3=>some (2,3)|197,4=>some (2,5)
 | 218,0=>some (1,0)|218,1=>some (1,1)
 | _,_=>ac
def Ft(P:Program)(t f:Nat):Option (Nat×Bool):=(P.underlying t).bind fun
 | .struct fs=>(fs[f]?).bind fun fl=>(P.info? fl.type).map fun i=>(fl.offset,i.size==0)
 | _=>ac
theorem Fs{t f es k:Nat}(h:fC t f=some (es,k)):Ft aj t f=some (es*k,false):=by
 unfold fC at h;split at h<;>first
  | (cases h;kernel_rfl)
  | cases h
theorem Hs:Ft aj 50 0=some (0,false):=by kernel_rfl
theorem Ho:Ft aj 50 1=some (1,false):=by kernel_rfl
def oo(t:TypeId)(x:AV)(f:Nat)(K:AV->Prop):Prop:=match fC t f,x with
 | some (es',k),.ptr es b i=>es'=es/\K (.ptr es b (i+k))
 | ac,.ptr es b i=>(es=2/\t=50/\f<2)/\K (.fp b i f)
 | _,_=>False
theorem rJ{t:TypeId}{x:AV}{f:Nat}{K:AV->Prop}(h:oo t x f K){w:World}{M:Nat->Prop}{vx:Value}(hx:bs w M x vx) :
  ∃z v,K z/\bs w M z v/\(Instr.fieldAt t vx f).run aj w=.ok v w:=by
 unfold oo at h;split at h
 ·rename_i es' k es b i hf;obtain⟨rfl,hK⟩:=h;simp only[bs]at hx;subst hx;have hc:=Fs hf;unfold Ft at hc
  cases hu:aj.underlying t with
  | none=>rw[hu]at hc;simp at hc
  | some d =>
   rw[hu]at hc
   cases d<;>simp only[da,reduceCtorEq]at hc
   rename_i fs
   cases hfl:fs[f]? with
   | none=>rw[hfl]at hc;simp at hc
   | some fl =>
    rw[hfl]at hc;simp only[da,cr,Prod.mk.injEq,beq_eq_false_iff_ne]at hc;obtain⟨ii,hi,ho,hz⟩:=hc;refine⟨_,.pointer (some ⟨b,es'*i+es'*k,ac⟩),hK,by simp[bs,cI],?_⟩
    simp[Instr.fieldAt,run_underlying hu,hfl,Instr.sureAddr,fieldPlace,cB hi,hz,gH,ho]
 ·rename_i es b i hf;obtain⟨⟨rfl,rfl,hf2⟩,hK⟩:=h;simp only[bs]at hx;subst hx;have hc:Ft aj 50 f=some (f,false):=by
   have h2:f=0∨f=1:=om
   rcases h2 with rfl|rfl
   ·exact Hs
   ·exact Ho
  unfold Ft at hc
  cases hu:aj.underlying 50 with
  | none=>rw[hu]at hc;simp at hc
  | some d =>
   rw[hu]at hc
   cases d<;>simp only[da,reduceCtorEq]at hc
   rename_i fs
   cases hfl:fs[f]? with
   | none=>rw[hfl]at hc;simp at hc
   | some fl =>
    rw[hfl]at hc;simp only[da,cr,Prod.mk.injEq,beq_eq_false_iff_ne]at hc;obtain⟨ii,hi,ho,hz⟩:=hc;refine⟨_,.pointer (some ⟨b,2*i+f,ac⟩),hK,by simp[bs],?_⟩
    simp[Instr.fieldAt,run_underlying hu,hfl,Instr.sureAddr,fieldPlace,cB hi,hz,gH,ho]
 ·exact h.elim
def wZ(S:St):AV->Option (Nat×Nat×(Nat->AV)×Option Nat)
 | .sl es b off len=>(S b).bind fun X=>if X.es=es/\off+len<=X.n then some (es,len,fun j=>X.g (off+j),some b)else ac
 | .lst es n g=>some (es,n,g,ac)
 | _=>ac
theorem tp(g:Nat->AV)(o:Nat):∀k i,dF (fun j=>g (o+j)) i k=dF g (o+i) k
 | 0,_=>rfl
 | k+1,i=>by simp only[dF];rw[tp g o k (i+1)];rfl
theorem jk(g:Nat->AV):∀k i,(dF g i k).length=k
 | 0,_=>rfl
 | k+1,i=>by simp[dF,jk g k]
theorem qy(g:Nat->AV):∀k i j,j<k->(dF g i k).getD j .any=g (i+j)
 | 0,_,_,h=>om
 | k+1,i,0,_=>by simp[dF]
 | k+1,i,j+1,h=>by
  have:=qy g k (i+1) j om;simp only[dF,List.getD_cons_succ];rw[this];congr 1;omega
theorem nr(g:Nat->AV):∀k i z,z∈dF g i k->∃j,j<k/\z=g (i+j)
 | 0,_,_,h=>by simp[dF]at h
 | k+1,i,z,h=>by
  simp only[dF,List.mem_cons]at h;rcases h with rfl|h
  ·exact⟨0,om,rfl⟩
  ·obtain⟨j,h1,h2⟩:=nr g k (i+1) z h;exact⟨j+1,om,by rw[h2];congr 1;omega⟩
theorem tA{w:World}{M:Nat->Prop}{b off es:Nat}{g:Nat->AV}{n:Nat}(hj:∀j,j<n->∃u,sC w b (off+es*j) es u/\bs w M (g j) u) :
  ∀(k i:Nat),i+k<=n->∃vs:List Value,bq w M (dF g i k) vs/\(vs.flatMap (fun u=>u.cells.toList)).length=es*k/\∀j,j<es*k->w.cell? ⟨b,off+es*i+j,ac⟩=(vs.flatMap (fun u=>u.cells.toList))[j]?
 | 0,i,_=>⟨[],by simp[dF,bq],sm,fun j hj=>by simp at hj⟩
 | k+1,i,hk=>by
  obtain⟨u,⟨cs,ty,fr,hb,hr⟩,hu⟩:=hj i om;obtain⟨vs,h1,h2,h3⟩:=tA hj k (i+1) om;have hsz:u.cells.toList.length=es/\∀j,j<es->w.cell? ⟨b,off+es*i+j,ac⟩=u.cells.toList[j]?:=by
   match es,hr with
   | 1,hr =>
    simp only[reads]at hr;rw[pP hr.2];exact⟨rfl,fun j hj=>by
     obtain rfl:j=0:=om
     rw[mE hb];simpa using hr.1⟩
   | 2,hr =>
    simp only[reads]at hr;obtain⟨x,y,rfl,_,_,h0,h1⟩:=hr;refine⟨rfl,fun j hj=>?_⟩;rw[mE hb]
    match j with
    | 0=>simpa [Value.cells]using h0
    | 1=>simpa [Value.cells]using h1
    | j+2=>omega
  refine⟨u::vs,by simp only[dF,bq];exact⟨hu,h1⟩,by simp only[de,List.length_append,hsz.1,h2];rw[ep];omega,fun j hj=>?_⟩
  simp only[de];by_cases hlt:j<es
  ·rw[eh (by rw[hsz.1];exact hlt)];exact hsz.2 j hlt
  ·rw[dV (by rw[hsz.1];omega),hsz.1,<-h3 (j-es) (by rw[ep]at hj;omega)]
   congr 2;rw[ep];omega
theorem yE{w:World}{S:St}(hs:dN w S){x:AV}{v:Value}(hx:bs w S.dom x v){es m:Nat}{h:Nat->AV}{o:Option Nat}(he:wZ S x=some (es,m,h,o))(hm:0<m) :
  ∃b off c vs,v=.slice (some ⟨b,off,ac⟩) m c/\bq w S.dom (dF h 0 m) vs/\(vs.flatMap (fun u=>u.cells.toList)).length=es*m/\∀j,j<es*m->w.cell? ⟨b,off+j,ac⟩=(vs.flatMap (fun u=>u.cells.toList))[j]?:=by
 cases x with
 | sl es' b off len =>
  simp only[wZ]at he
  cases hX:S b with
  | none=>rw[hX]at he;simp at he
  | some X =>
   rw[hX]at he;simp only[da]at he;split at he
   ·rename_i hc;simp only[ef.injEq,Prod.mk.injEq]at he;obtain⟨rfl,rfl,rfl,_⟩:=he;simp only[bs]at hx;obtain⟨cap,cs',ty',fr',rfl,_,_,_⟩:=hx;obtain⟨cs,hb,hsz,hj,_⟩:=hs b X hX;obtain⟨vs,h1,h2,h3⟩:=l7 hj len off hc.2;rw[hc.1]at h2 h3;refine⟨b,es'*off,cap,vs,rfl,by rw[tp,dd];exact h1,h2,fun j hj=>?_⟩
    rw[mE hb];exact h3 j hj
   ·cases he
 | lst es' n g =>
  simp only[wZ,ef.injEq,Prod.mk.injEq]at he;obtain⟨rfl,rfl,rfl,_⟩:=he;simp only[bs]at hx;obtain⟨A,c,rfl,hc,hb⟩:=hx;obtain⟨b,off,rfl,_,_,hj⟩:=hb hm;obtain⟨vs,h1,h2,h3⟩:=tA hj n 0 om;exact⟨b,off,c,vs,rfl,h1,h2,fun j hj=>by have:=h3 j hj;simpa using this⟩
 | _=>simp[wZ]at he
def lP(g:Nat->AV)(len m:Nat)(h:Nat->AV):Nat->AV:=if m=1 then bJ g len (h 0)else fun j=>if j<len then g j else h (j-len)
theorem Ai{g:Nat->AV}{len m:Nat}{h:Nat->AV}{j:Nat}(hj:j<len):lP g len m h j=g j:=by
 unfold lP;split
 ·simp only[bJ];rw[if_neg om]
 ·simp only;rw[if_pos hj]
theorem ua{g:Nat->AV}{len m:Nat}{h:Nat->AV}{j:Nat}(h1:len<=j)(h2:j<len+m):lP g len m h j=h (j-len):=by
 unfold lP;split
 ·simp only[bJ];rw[if_pos om];congr 1;omega
 ·simp only;rw[if_neg om]
def St.del(S:St)(b:Nat):St:=fun k=>if k=b then ac else S k
def eV(t t':TypeId)(s x:AV)(S:St)(K:AV->St->Prop):Prop:=match c9 t with
 | some e=>t=t'/\(fD e).isSome=true/\(match wZ S x with
  | some (es,m,h,o)=>es=bP e/\0<m/\(∀j,j<m->dI es (h j))/\(match s with
   | .nil=>m<=1048576/\∀b,S b=ac->K (.sl es b 0 m) (S.upd b ⟨e,es,m,h⟩)
   | .sl es' b off len=>(match S b with
    | some X=>es'=es/\off=0/\X.ty=e/\X.es=es/\X.n=len/\len+m<=1048576/\o≠some b /\
     ∀b',(b'=b∨S b'=ac)->K (.sl es b' 0 (len+m)) ((S.del b).upd b' ⟨e,es,len+m,lP X.g len m h⟩)
    | ac=>False)
   | _=>False)
  | ac=>False)
 | ac=>False
theorem mM{es:Nat}{x:AV}{z:Value}{w:World}{M:Nat->Prop}(h:dI es x)(hr:bs w M x z)(n k:Nat)(y:Value)(hy:(Builtin.zeroCells z.cells n)[k]? = some y):kz y:=by
 obtain⟨h1,h2,_⟩:=pJ h hr;simp only[Builtin.zeroCells,Array.getElem?_map,cr]at hy;obtain⟨i,hi,rfl⟩:=hy;by_cases hz:z.cells.size=0
 ·rw[hz]at hi;simp at hi
 ·have hlt:i%z.cells.size<z.cells.size:=Nat.mod_lt _ om;rw[getElem!_pos z.cells _ hlt];exact(h2 _ sm).2
theorem cw.drew(M:Nat->Prop)(w:World):cw M M w w.drew:=⟨rfl,rfl,rfl,ah _,fun _ _ _=>rfl,fun _ cs _ _ h=>⟨cs,h,rfl⟩,fun _ _ h=>h⟩
theorem dN.drew{w:World}{S:St}(h:dN w S):dN w.drew S:=fun b X hX=>by
 obtain⟨cs,h1,h2,h3,h4⟩:=h b X hX;exact⟨cs,h1,h2,fun j hj=>by obtain⟨u,h5,h6⟩:=h3 j hj;exact⟨u,h5,bs.grow h.noU (cw.drew _ w) _ _ h6⟩,h4⟩
theorem dN.less{w:World}{S S':St}(h:dN w S)(hs:∀b X,S' b=some X->S b=some X):dN w S'/\∀k,S'.dom k->S.dom k:=by
 have hd:∀k,S'.dom k->S.dom k:=fun k hk=>by
  simp only[St.dom]at hk ⊢
  cases e:S' k with
  | none=>exact absurd e hk
  | some X=>rw[hs k X e];simp
 have hg:cw S.dom S'.dom w w:=(cw.refl S.dom w).weaken hd;refine⟨fun b X hX=>?_,hd⟩;obtain⟨cs,h1,h2,h3,h4⟩:=h b X (hs b X hX);exact⟨cs,h1,h2,fun j hj=>by obtain⟨u,h5,h6⟩:=h3 j hj;exact⟨u,h5,bs.grow h.noU hg _ _ h6⟩,h4⟩
theorem BY(S:St)(b:Nat):∀k X,S.del b k=some X->S k=some X:=by
 intro k X h;simp only[St.del]at h;split at h
 ·cases h
 ·exact h
theorem uf{e:TypeId}(h:(fD e).isSome=true):∃x z,fD e=some (bP e,x,z):=by
 unfold fD at h ⊢;split at h<;>first|exact⟨_,_,rfl⟩|cases h
theorem DU(S:St)(b:Nat)(X:dH):(S.del b).upd b X=S.upd b X:=by
 funext k;simp only[St.del,St.upd];split<;>rfl
theorem lZ(z:Array Value)(n:Nat):(Builtin.zeroCells z n).size=n*z.size:=by simp[Builtin.zeroCells]
theorem kd{w:World}{M:Nat->Prop}{es len m:Nat}{g h:Nat->AV}{cs:Array Value}{vs:List Value}
  (hold:∀j,j<len->∃u,reads cs (es*j) es u/\bs w M (g j) u) (hr:bq w M (dF h 0 m) vs) (hst:∀j,j<m->dI es (h j))
  (hnew:∀q,q<es*m->cs[es*len+q]? = (vs.flatMap (fun u=>u.cells.toList))[q]?) :
  ∀j,j<len+m->∃u,reads cs (es*j) es u/\bs w M (lP g len m h j) u:=by
 intro j hj;by_cases hlt:j<len
 ·rw[Ai hlt];exact hold j hlt
 ·rw[ua om hj];obtain⟨_,_,_,l4⟩:=gD (es:=es) (dF h 0 m) vs hr (fun z hz=>by
   obtain⟨k,hk,rfl⟩:=nr h m 0 z hz;rw[aF];exact hst k hk)
  obtain⟨u,h1,h2⟩:=l4 (j-len) (by rw[jk];omega)
  rw[qy _ _ _ _ om,aF]at h1;refine⟨u,?_,h1⟩;have:=h2 cs (es*len) (fun q hq=>hnew q (by rw[jk]at hq;exact hq))
  rw[<-cI,(om:len+(j-len)=j)]at this
  exact this
theorem xK{t t' ty:TypeId}{s x:AV}{S:St}{K:AV->St->Prop}(h:eV t t' s x S K){w:World}(hs:dN w S){vs vx:Value}(hsv:bs w S.dom s vs)(hx:bs w S.dom x vx) :
  Az (Builtin.append_ #[t,t'] ty #[vs,vx]) w S K:=by
 unfold eV at h
 cases he:c9 t with
 | none=>rw[he]at h;exact h.elim
 | some e =>
  rw[he]at h;obtain⟨rfl,hze,h⟩:=h;obtain⟨zx,zv,hz⟩:=uf hze;obtain⟨hu,i,hi,hsz⟩:=im he;obtain⟨i',g1,g2,g3,g4,g5,g6,g7,g8⟩:=ni hz;rw[hi]at g1;cases g1
  cases hel:wZ S x with
  | none=>rw[hel]at h;exact h.elim
  | some p =>
   obtain⟨es,m,f,o⟩:=p;rw[hel]at h;obtain⟨rfl,hm,hst,h⟩:=h;obtain⟨xb,xo,xc,us,rfl,u1,u2,u3⟩:=yE hs hx hel hm;obtain⟨_,_,l3,_⟩:=gD (es:=bP e) (dF f 0 m) us u1 (fun z hz=>by
    obtain⟨k,hk,rfl⟩:=nr f m 0 z hz;rw[aF];exact hst k hk)
   generalize hfl:us.flatMap (fun u=>u.cells.toList)=fl at *;have hfl2:fl.length=m*i.size:=by rw[u2,hsz,aS]
   have hnews:∀j v,fl[j]? = some v->w.cell? ((⟨xb,xo,ac⟩:Addr).add j)=some v:=fun j v hj=>by
    rw[gH,u3 j (by rw[<-u2];exact(cO.1 hj).1)];exact hj
   have hnu:∀(k:Nat) (y:Value),fl[k]? = some y->kz y:=fun k y hy=>(l3 y (cC hy)).2;have hmb:m*i.bytes<=32*m:=by rw[aS];exact bY _ g4
   cases s with
   | nil =>
    simp only at h;obtain⟨hm2,hK⟩:=h;simp only[bs]at hsv;subst hsv;have hrun:=run_append_nil (P:=aj) w t ty e i zv hu hi g2 ⟨xb,xo,ac⟩ m xc fl hfl2 hnews hm om om;have hcap:=grownCap_ge w m 0 e;generalize grownCap w m 0 e=cap at hrun hcap;have hsize:(fl.toArray++Builtin.zeroCells zv.cells (cap-m)).size=bP e*cap:=by
     rw[gP,lZ,bX,u2,g6,aS (cap-m),<-cI,(om:m+(cap-m)=cap)]
    have hrd:=kd (w:=w.drew) (M:=S.dom) (es:=bP e) (len:=0) (m:=m) (g:=f) (h:=f) (cs:=fl.toArray++Builtin.zeroCells zv.cells (cap-m)) (vs:=us) (fun j hj=>om) (bq.grow hs.noU (cw.drew _ w) _ _ u1) hst (fun q hq=>by
     rw[dT,aF,hfl,eS (by rw[bX,u2];exact hq)];simp)
    obtain⟨n1,n2,n3⟩:=dN.new (w:=w.drew) hs.drew (X:=⟨e,bP e,m,f⟩) (cs:=fl.toArray++Builtin.zeroCells zv.cells (cap-m)) (by rw[hsize];exact a9 _ hcap)
     (fun j hj=>by have:=hrd j (by simpa using hj);rw[ua om (by simpa using hj)]at this;simpa using this) (fun k y hy=>by
      rw[mL]at hy;split at hy
      ·exact hnu k y (by simpa using hy)
      ·exact mM g7 (g8 w S.dom) _ _ _ hy)
    refine⟨_,_,_,_,hK _ n1,?_,n2,(cw.drew S.dom w).trans n3,hrun⟩;simp only[bs];exact⟨cap,_,e,(0,0),by rw[dT];rfl,hcap,heap_alloc_new w.drew _,by rw[hsize,aF];exact ah _⟩
   | sl es' b off len =>
    simp only at h
    cases hX:S b with
    | none=>rw[hX]at h;exact h.elim
    | some X =>
     rw[hX]at h;obtain⟨rfl,rfl,hty,hes,hn,hmax,hob,hK⟩:=h;simp only[bs,dT,aF]at hsv;obtain⟨cap,cs',ty',fr',rfl,hlc,hb',hcs'⟩:=hsv;obtain⟨cs,hb,hcsz,hj,hcu⟩:=hs b X hX;rw[hb]at hb';simp only[ef.injEq,Obj.cells.injEq]at hb';obtain⟨rfl,rfl,rfl⟩:=hb';rw[hes,hn]at hj hcsz;rw[hty]at hb;by_cases hroom:len+m<=cap
     ·have hf:=run_firstCells_some (P:=aj) w i.size m ⟨xb,xo,ac⟩ m xc fl hfl2 hnews;have hfit:bP e*len+fl.length<=cs.size:=by
       rw[u2,<-cI];exact bV (a9 _ hroom) hcs'
      have hst2:=i9 aj (b:=b) (off:=len*i.size) (ty:=e) fl w cs 0 hb (by rw[hsz,dd,aS];exact hfit) (fun u hu=>(l3 u hu).1)
      rw[dd]at hst2;have hrun:(Builtin.append_ #[t,t] ty #[.slice (some ⟨b,0,ac⟩) len cap,.slice (some ⟨xb,xo,ac⟩) m xc]).run aj w=.ok (.slice (some ⟨b,0,ac⟩) (len+m) cap) (eT w b (d6 cs (len*i.size) fl) e):=by
       simp[Builtin.append_,run_underlying hu,sizeOf,typeInfo,hi,Builtin.lenOf,hroom,hf,gH,hst2]
      have hcsn:∀q,q<bP e*m->(d6 cs (len*i.size) fl)[bP e*len+q]? = fl[q]?:=fun q hq=>by
       rw[gF _ _ _ _ (by rw[hsz,aS];exact hfit),if_pos (by rw[hsz,u2,aS len];omega)]
       rw[show bP e*len+q-len*i.size=q by rw[hsz,aS len];omega]
      have hrd:=kd (w:=w) (M:=S.dom) (es:=bP e) (len:=len) (m:=m) (g:=X.g) (h:=f) (cs:=d6 cs (len*i.size) fl) (vs:=us) (fun j hjl=>by
       obtain⟨u,h5,h6⟩:=hj j hjl;refine⟨u,jx h5 (fun q hq=>?_),h6⟩;rw[gF _ _ _ _ (by rw[hsz,aS];exact hfit),if_neg]
       rw[hsz,aS len];have:bP e*(j+1)<=bP e*len:=a9 _ hjl;rw[ep]at this;omega) u1 hst (fun q hq=>by rw[hfl];exact hcsn q hq)
      have hwr:=dN.write hs hX (X':=⟨e,bP e,len+m,lP X.g len m f⟩) (cs:=cs) (cs':=d6 cs (len*i.size) fl) (by rw[hty];exact hb) (gk _ _ _) hty.symm (by
        rw[gk];exact bV (a9 _ hroom) hcs') hrd (fun k y hy=>by
        rw[gF _ _ _ _ (by rw[hsz,aS];exact hfit)]at hy
        split at hy
        ·exact hnu _ y hy
        ·exact hcu k y hy)
      rw[hty]at hwr;have hK':=hK b (bQ rfl);rw[DU]at hK';refine⟨_,_,_,_,hK',?_,hwr.1,hwr.2,hrun⟩;simp only[bs,dT,aF];exact⟨cap,d6 cs (len*i.size) fl,e,(0,0),rfl,hroom,by rw[iB (dW hb),if_pos rfl],by rw[gk];exact hcs'⟩
     ·obtain⟨os,o1,o2,o3⟩:=l7 hj len 0 om;generalize hol:os.flatMap (fun u=>u.cells.toList)=ol at *;have hob2:(len+m)*i.bytes<=32*(len+m):=by rw[aS];exact bY _ g4
      have hrun:=run_append_grow (P:=aj) w t ty e i zv hu hi g2 ⟨b,0,ac⟩ len cap ol (by rw[o2,hsz,aS]) (fun j v hjv=>by
        rw[gH,mE hb];have:=o3 j (by rw[<-o2];exact(cO.1 hjv).1)
        rw[dT]at this;rw[this];exact hjv) ⟨xb,xo,ac⟩ m xc fl hfl2 hnews om om (growslice_fits om om)
      have hcap:=grownCap_ge w (len+m) cap e;generalize grownCap w (len+m) cap e=cap2 at hrun hcap;have hsize:(ol.toArray++fl.toArray++Builtin.zeroCells zv.cells (cap2-(len+m))).size=bP e*cap2:=by
       rw[gP,gP,lZ,bX,bX,u2,o2,g6,aS (cap2-(len+m)),<-cI,<-cI,(om:len+m+(cap2-(len+m))=cap2)]
      have hget1:∀q,q<bP e*len->(ol.toArray++fl.toArray++Builtin.zeroCells zv.cells (cap2-(len+m)))[q]? = ol[q]?:=fun q hq=>by
       rw[eS (by rw[gP,bX,o2];omega),eS (by rw[bX,o2];exact hq)];simp
      have hrd:=kd (w:=w.drew) (M:=S.dom) (es:=bP e) (len:=len) (m:=m) (g:=X.g) (h:=f) (cs:=ol.toArray++fl.toArray++Builtin.zeroCells zv.cells (cap2-(len+m))) (vs:=us) (fun j hjl=>by
        obtain⟨u,h5,h6⟩:=hj j hjl;refine⟨u,jx h5 (fun q hq=>?_),bs.grow hs.noU (cw.drew _ w) _ _ h6⟩;have hql:bP e*j+q<bP e*len:=by
         have:bP e*(j+1)<=bP e*len:=a9 _ hjl;rw[ep]at this;omega
        rw[hget1 _ hql,<-o3 _ hql,dT,aF]) (bq.grow hs.noU (cw.drew _ w) _ _ u1) hst (fun q hq=>by
        rw[hfl,eS (by rw[gP,bX,bX,o2,u2];omega),Array.getElem?_append_right (by rw[bX,o2];omega),bX,o2,(om:bP e*len+q-bP e*len=q)];simp)
      have holu:∀(k:Nat) (y:Value),ol[k]? = some y->kz y:=fun k y hy=>by
       have hk:k<ol.length:=(cO.1 hy).1;have:=o3 k (by rw[<-o2];exact hk)
       rw[hy]at this;exact hcu _ y this
      obtain⟨n1,n2,n3⟩:=dN.new (w:=w.drew) hs.drew (X:=⟨e,bP e,len+m,lP X.g len m f⟩) (cs:=ol.toArray++fl.toArray++Builtin.zeroCells zv.cells (cap2-(len+m))) (by rw[hsize];exact a9 _ hcap) hrd (fun k y hy=>by
        rw[mL]at hy;split at hy
        ·rw[mL]at hy;split at hy
         ·exact holu k y (by simpa using hy)
         ·exact hnu _ y (by simpa using hy)
        ·exact mM g7 (g8 w S.dom) _ _ _ hy)
      have hless:=dN.less n2 (S':=(S.del b).upd w.drew.heap.size ⟨e,bP e,len+m,lP X.g len m f⟩) (fun k Y hY=>by
       simp only[St.upd]at hY ⊢;split at hY
       ·rename_i e1;rw[if_pos e1];exact hY
       ·rename_i e1;rw[if_neg e1];exact BY S b k Y hY)
      refine⟨_,_,_,_,hK _ (bH n1),?_,hless.1,((cw.drew S.dom w).trans n3).weaken hless.2,hrun⟩;simp only[bs,dT,aF];exact⟨cap2,_,e,(0,0),rfl,hcap,heap_alloc_new w.drew _,by rw[hsize];exact ah _⟩
   | _=>exact h.elim
theorem ug(z:Value)(n:Nat):Builtin.zeroCells z.cells n=((bR n z).flatMap (fun u=>u.cells.toList)).toArray:=lH z n
theorem qf{w:World}{M:Nat->Prop}{x:AV}{z:Value}(h:bs w M x z):∀n k,bq w M (dF (fun _=>x) k n) (bR n z)
 | 0,_=>by simp[dF,bq]
 | n+1,k=>by simp only[dF,kW,bq];exact⟨h,qf h n (k+1)⟩
def mi(t:TypeId)(s x:AV)(S:St)(K:AV->St->Prop):Prop:=match s,x with
 | .sl es b off len,.int _ (.ofNat m)=>(match c9 t,S b with
  | some e,some X=>(match fD e with
   | some (es',z,_)=>es'=es/\es=bP e/\off=0/\X.ty=e/\X.es=es/\X.n=len/\1<=m/\len+m<=1048576 /\
    ∀b',(b'=b∨S b'=ac)->K (.sl es b' 0 (len+m)) ((S.del b).upd b' ⟨e,es,len+m,lP X.g len m (fun _=>z)⟩)
   | ac=>False)
  | _,_=>False)
 | _,_=>False
theorem wF{t ty:TypeId}{s x:AV}{S:St}{K:AV->St->Prop}(h:mi t s x S K){w:World}(hs:dN w S){vs vx:Value}(hsv:bs w S.dom s vs)(hx:bs w S.dom x vx) :
  Az (Builtin.append_ #[t,3] ty #[vs,vx]) w S K:=by
 unfold mi at h;split at h
 ·rename_i es0 b off len k m
  cases he:c9 t with
  | none=>rw[he]at h;exact h.elim
  | some e =>
  cases hX:S b with
  | none=>rw[he,hX]at h;exact h.elim
  | some X =>
   rw[he,hX]at h;simp only at h
   cases hz:fD e with
   | none=>rw[hz]at h;exact h.elim
   | some p =>
   obtain⟨es',zx,zv⟩:=p;rw[hz]at h;obtain⟨rfl,rfl,rfl,hty,hes,hn,hm,hmax,hK⟩:=h;obtain⟨hu,i,hi,hsz⟩:=im he;obtain⟨i',g1,g2,g3,g4,g5,g6,g7,g8⟩:=ni hz;rw[hi]at g1;cases g1;have h3u:=underlying3;simp only[bs]at hx;subst hx;have hx3:Int.ofNat m=(m:Int):=rfl;rw[hx3];have hmm:m≠0:=om
   have u1:=qf (g8 w S.dom) m 0;generalize hff:(fun _:Nat=>zx)=f at *;have hst:∀j,j<m->dI (bP e) (f j):=fun j hj=>by rw[<-hff];exact g7
   obtain⟨_,u2,l3,_⟩:=gD (es:=bP e) (dF f 0 m) (bR m zv) u1 (fun z hz=>by
    obtain⟨k,hk,rfl⟩:=nr f m 0 z hz;rw[aF];exact hst k hk)
   have hzc:=ug zv m;generalize hus:bR m zv=us at *;generalize hfl:us.flatMap (fun u=>u.cells.toList)=fl at *;rw[jk]at u2;have hnu:∀(k:Nat) (y:Value),fl[k]? = some y->kz y:=fun k y hy=>(l3 y (cC hy)).2;have hwm:IntKind.i64.wrap (m:Int)=m:=by rw[IntKind.wrap_i64];omega
   have hmb:m*i.bytes<=32*m:=by rw[aS];exact bY _ g4
   have hib:¬(281474976710656<(m:Int)*(i.bytes:Int)):=by rw[<-Int.natCast_mul];omega
   have hm0:¬((m:Int)<0):=om
   have hi1:i.size≠0:=by rw[hsz];unfold bP;split<;>omega
   simp only[bs,dT,aF]at hsv;obtain⟨cap,cs',ty',fr',rfl,hlc,hb',hcs'⟩:=hsv;obtain⟨cs,hb,hcsz,hj,hcu⟩:=hs b X hX;rw[hb]at hb';simp only[ef.injEq,Obj.cells.injEq]at hb';obtain⟨rfl,rfl,rfl⟩:=hb';rw[hes,hn]at hj hcsz;rw[hty]at hb;by_cases hroom:len+m<=cap
   ·have hmm:m≠0:=om
    have hfit:bP e*len+fl.length<=cs.size:=by
     rw[u2,<-cI];exact bV (a9 _ hroom) hcs'
    have hst2:=i9 aj (b:=b) (off:=len*i.size) (ty:=e) fl w cs 0 hb (by rw[hsz,dd,aS];exact hfit) (fun u hu=>(l3 u hu).1)
    rw[dd]at hst2;have hst2':(storeCells ⟨b,len*i.size,ac⟩ fl).run aj w=.ok () (eT w b (d6 cs (len*i.size) fl) e):=hst2;have hrun:(Builtin.append_ #[t,3] ty #[.slice (some ⟨b,0,ac⟩) len cap,.int k (m:Int)]).run aj w=.ok (.slice (some ⟨b,0,ac⟩) (len+m) cap) (eT w b (d6 cs (len*i.size) fl) e):=by
     simp[Builtin.append_,run_underlying hu,run_underlying h3u,sizeOf,typeInfo,hi,asInt,asIntOf,hwm,hm0,hib,zeroValue,g2,hzc,hroom,gH,hst2'];intro h0;exact absurd h0 (Nat.mul_ne_zero hmm hi1)
    have hcsn:∀q,q<bP e*m->(d6 cs (len*i.size) fl)[bP e*len+q]? = fl[q]?:=fun q hq=>by
     rw[gF _ _ _ _ (by rw[hsz,aS];exact hfit),if_pos (by rw[hsz,u2,aS len];omega)]
     rw[show bP e*len+q-len*i.size=q by rw[hsz,aS len];omega]
    have hrd:=kd (w:=w) (M:=S.dom) (es:=bP e) (len:=len) (m:=m) (g:=X.g) (h:=f) (cs:=d6 cs (len*i.size) fl) (vs:=us) (fun j hjl=>by
     obtain⟨u,h5,h6⟩:=hj j hjl;refine⟨u,jx h5 (fun q hq=>?_),h6⟩;rw[gF _ _ _ _ (by rw[hsz,aS];exact hfit),if_neg]
     rw[hsz,aS len];have:bP e*(j+1)<=bP e*len:=a9 _ hjl;rw[ep]at this;omega) u1 hst (fun q hq=>by rw[hfl];exact hcsn q hq)
    have hwr:=dN.write hs hX (X':=⟨e,bP e,len+m,lP X.g len m f⟩) (cs:=cs) (cs':=d6 cs (len*i.size) fl) (by rw[hty];exact hb) (gk _ _ _) hty.symm (by
      rw[gk];exact bV (a9 _ hroom) hcs') hrd (fun k y hy=>by
      rw[gF _ _ _ _ (by rw[hsz,aS];exact hfit)]at hy
      split at hy
      ·exact hnu _ y hy
      ·exact hcu k y hy)
    rw[hty]at hwr;have hK':=hK b (bQ rfl);rw[DU]at hK';refine⟨_,_,_,_,hK',?_,hwr.1,hwr.2,hrun⟩;simp only[bs,dT,aF];exact⟨cap,d6 cs (len*i.size) fl,e,(0,0),rfl,hroom,by rw[iB (dW hb),if_pos rfl],by rw[gk];exact hcs'⟩
   ·obtain⟨os,o1,o2,o3⟩:=l7 hj len 0 om;generalize hol:os.flatMap (fun u=>u.cells.toList)=ol at *;have hob2:(len+m)*i.bytes<=32*(len+m):=by rw[aS];exact bY _ g4
    have hrun:=Lib.run_append_grow_zeros (P:=aj) w t 3 ty e i zv k .i64 hu h3u hi g2 (some ⟨b,0,ac⟩) len cap ol (run_firstCells_some (P:=aj) w.drew i.size len ⟨b,0,ac⟩ len cap ol (by rw[o2,hsz,aS]) (fun j v hjv=>by
      rw[gH];have hbd:w.drew.heap[b]? = some (.cells cs e (0,0)):=hb;rw[mE hbd];have:=o3 j (by rw[<-o2];exact(cO.1 hjv).1)
      rw[dT]at this;rw[this];exact hjv)) m om (by rw[hsz];unfold bP;split<;>omega) om om om (growslice_fits om om)
    rw[hzc]at hrun;have hcap:=grownCap_ge w (len+m) cap e;generalize grownCap w (len+m) cap e=cap2 at hrun hcap;have hsize:(ol.toArray++fl.toArray++Builtin.zeroCells zv.cells (cap2-(len+m))).size=bP e*cap2:=by
     rw[gP,gP,lZ,bX,bX,u2,o2,g6,aS (cap2-(len+m)),<-cI,<-cI,(om:len+m+(cap2-(len+m))=cap2)]
    have hget1:∀q,q<bP e*len->(ol.toArray++fl.toArray++Builtin.zeroCells zv.cells (cap2-(len+m)))[q]? = ol[q]?:=fun q hq=>by
     rw[eS (by rw[gP,bX,o2];omega),eS (by rw[bX,o2];exact hq)];simp
    have hrd:=kd (w:=w.drew) (M:=S.dom) (es:=bP e) (len:=len) (m:=m) (g:=X.g) (h:=f) (cs:=ol.toArray++fl.toArray++Builtin.zeroCells zv.cells (cap2-(len+m))) (vs:=us) (fun j hjl=>by
      obtain⟨u,h5,h6⟩:=hj j hjl;refine⟨u,jx h5 (fun q hq=>?_),bs.grow hs.noU (cw.drew _ w) _ _ h6⟩;have hql:bP e*j+q<bP e*len:=by
       have:bP e*(j+1)<=bP e*len:=a9 _ hjl;rw[ep]at this;omega
      rw[hget1 _ hql,<-o3 _ hql,dT,aF]) (bq.grow hs.noU (cw.drew _ w) _ _ u1) hst (fun q hq=>by
      rw[hfl,eS (by rw[gP,bX,bX,o2,u2];omega),Array.getElem?_append_right (by rw[bX,o2];omega),bX,o2,(om:bP e*len+q-bP e*len=q)];simp)
    have holu:∀(k:Nat) (y:Value),ol[k]? = some y->kz y:=fun k y hy=>by
     have hk:k<ol.length:=(cO.1 hy).1;have:=o3 k (by rw[<-o2];exact hk)
     rw[hy]at this;exact hcu _ y this
    obtain⟨n1,n2,n3⟩:=dN.new (w:=w.drew) hs.drew (X:=⟨e,bP e,len+m,lP X.g len m f⟩) (cs:=ol.toArray++fl.toArray++Builtin.zeroCells zv.cells (cap2-(len+m))) (by rw[hsize];exact a9 _ hcap) hrd (fun k y hy=>by
      rw[mL]at hy;split at hy
      ·rw[mL]at hy;split at hy
       ·exact holu k y (by simpa using hy)
       ·exact hnu _ y (by simpa using hy)
      ·exact mM g7 (g8 w S.dom) _ _ _ hy)
    have hless:=dN.less n2 (S':=(S.del b).upd w.drew.heap.size ⟨e,bP e,len+m,lP X.g len m f⟩) (fun k Y hY=>by
     simp only[St.upd]at hY ⊢;split at hY
     ·rename_i e1;rw[if_pos e1];exact hY
     ·rename_i e1;rw[if_neg e1];exact BY S b k Y hY)
    refine⟨_,_,_,_,hK _ (bH n1),?_,hless.1,((cw.drew S.dom w).trans n3).weaken hless.2,hrun⟩;simp only[bs,dT,aF];exact⟨cap2,_,e,(0,0),rfl,hcap,heap_alloc_new w.drew _,by rw[hsize];exact ah _⟩
 ·exact h.elim
def rP(len:Nat)(lo hi mx:Option AV)(K:Nat->Nat->Prop):Prop :=
 ∃l h:Nat,(match lo with|ac=>l=0|some (.int _ a)=>a=(l:Int)|_=>False)/\(match hi with|ac=>h=len|some (.int _ a)=>a=(h:Int)|_=>False) /\
  (match mx with|ac=>True|some (.int _ a)=>(h:Int)<=a/\a<=(len:Int)/\hi.isSome=true|_=>False)/\l<=h/\h<=len/\K l h
def jR(t:TypeId)(x:AV)(lo hi mx:Option AV)(K:AV->Prop):Prop:=match c9 t,x with
 | some e,.sl es b off len=>es=bP e/\rP len lo hi mx (fun l h=>K (if l=0∨l<h then .sl es b (off+l) (h-l)else .lst es 0 (fun _=>.any)))
 | some e,.lst es n g=>es=bP e/\rP n lo hi mx (fun l h=>K (.lst es (h-l) (fun j=>g (l+j))))
 | some _,.nil=>rP 0 lo hi mx (fun _ _=>K .nil)
 | _,_=>False
def qK(w:World)(M:Nat->Prop):Option AV->Option Value->Prop
 | ac,ac=>True
 | some x,some v=>bs w M x v
 | _,_=>False
theorem qA{w:World}{M:Nat->Prop}{len cap:Nat}(hc:len<=cap){lo hi mx:Option AV}{K:Nat->Nat->Prop}(h:rP len lo hi mx K){vl vh vm:Option Value}(hl:qK w M lo vl)(hh:qK w M hi vh)(hm:qK w M mx vm) :
  ∃l h m:Nat,K l h/\l<=h/\h<=len/\h<=m/\m<=cap/\(Instr.sliceBounds true len cap vl vh vm).run aj w=.ok (l,h,m) w:=by
 obtain⟨l,h,h1,h2,h3,h4,h5,hK⟩:=h;have bnd:∀(a:Int) (k:IntKind) (n:Nat) (y:Nat) (c:BoundsCode),a=(n:Int)->n<=y->(Instr.sliceBound (.int k a) y c).run aj w=.ok n w:=by
  intro a k n y c ha hn;subst ha;have:(0:Int)<=n/\(n:Int)<=(y:Int):=om
  simp[Instr.sliceBound,asIntOf,hn]
 cases mx with
 | none =>
  cases vm with
  | some _=>exact hm.elim
  | none =>
   refine⟨l,h,cap,hK,h4,h5,om,ah _,?_⟩
   cases hi with
   | none =>
    cases vh with
    | some _=>exact hh.elim
    | none =>
     simp only at h2;subst h2
     cases lo with
     | none =>
      cases vl with
      | some _=>exact hl.elim
      | none=>simp only at h1;subst h1;simp[Instr.sliceBounds]
     | some x =>
      cases vl with
      | none=>exact hl.elim
      | some v =>
       cases x<;>simp only at h1
       simp only[qK,bs]at hl;subst hl;simp[Instr.sliceBounds,bnd _ _ l h _ h1 h4]
   | some y =>
    cases vh with
    | none=>exact hh.elim
    | some v2 =>
     cases y<;>simp only at h2
     simp only[qK,bs]at hh;subst hh
     cases lo with
     | none =>
      cases vl with
      | some _=>exact hl.elim
      | none=>simp only at h1;subst h1;simp[Instr.sliceBounds,bnd _ _ h cap _ h2 om]
     | some x =>
      cases vl with
      | none=>exact hl.elim
      | some v =>
       cases x<;>simp only at h1
       simp only[qK,bs]at hl;subst hl;simp[Instr.sliceBounds,bnd _ _ h cap _ h2 om,bnd _ _ l h _ h1 h4]
 | some z =>
  cases vm with
  | none=>exact hm.elim
  | some v3 =>
   cases z<;>simp only at h3
   rename_i km am;simp only[qK,bs]at hm;subst hm;obtain⟨m1,m2,m3⟩:=h3
   cases hi with
   | none=>simp at m3
   | some y =>
    cases vh with
    | none=>exact hh.elim
    | some v2 =>
     cases y<;>simp only at h2
     simp only[qK,bs]at hh;subst hh;refine⟨l,h,am.toNat,hK,h4,h5,om,om,?_⟩
     have hbm:=bnd am km am.toNat cap .slice3Acap om om
     cases lo with
     | none =>
      cases vl with
      | some _=>exact hl.elim
      | none=>simp only at h1;subst h1;simp[Instr.sliceBounds,hbm,bnd _ _ h am.toNat _ h2 om]
     | some x =>
      cases vl with
      | none=>exact hl.elim
      | some v =>
       cases x<;>simp only at h1
       simp only[qK,bs]at hl;subst hl;simp[Instr.sliceBounds,hbm,bnd _ _ h am.toNat _ h2 om,bnd _ _ l h _ h1 h4]
theorem rG{t:TypeId}{x:AV}{lo hi mx:Option AV}{K:AV->Prop}(h:jR t x lo hi mx K){w:World}{M:Nat->Prop}{v:Value}{vl vh vm:Option Value}(hx:bs w M x v)(hl:qK w M lo vl)(hh:qK w M hi vh)(hm:qK w M mx vm) :
  ∃z u,K z/\bs w M z u/\(Instr.sliceAt t v vl vh vm).run aj w=.ok u w:=by
 unfold jR at h;split at h
 ·rename_i e es b off len he;obtain⟨rfl,hb⟩:=h;obtain⟨hu,i,hi',hs⟩:=im he;simp only[bs]at hx;obtain⟨cap,cs,ty,fr,rfl,hc,hheap,hcs⟩:=hx;obtain⟨l,h,m,hK,h1,h2,h3,h4,hrun⟩:=qA hc hb hl hh hm;have hall:(Instr.sliceAt t (.slice (some ⟨b,bP e*off,ac⟩) len cap) vl vh vm).run aj w=.ok (.slice (if m=l then some ⟨b,bP e*off,ac⟩else some ⟨b,bP e*off+l*bP e,ac⟩) (h-l) (m-l)) w:=by
   simp[Instr.sliceAt,run_underlying hu,Instr.slice,hrun,cB hi',hs,gH]
  refine⟨_,_,hK,?_,hall⟩;by_cases hc0:l=0∨l<h
  ·rw[if_pos hc0];simp only[bs];refine⟨m-l,cs,ty,fr,?_,om,hheap,bV (a9 _ om) hcs⟩
   rcases hc0 with rfl|hc0
   ·simp
   ·rw[if_neg om,cI,aS l]
  ·rw[if_neg hc0];simp only[bs];exact⟨_,m-l,by rw[(om:h-l=0)],om,fun h0=>absurd h0 om⟩
 ·rename_i e es n g he;obtain⟨rfl,hb⟩:=h;obtain⟨hu,i,hi',hs⟩:=im he;simp only[bs]at hx;obtain⟨A,cap,rfl,hc,hbl⟩:=hx;obtain⟨l,h,m,hK,h1,h2,h3,h4,hrun⟩:=qA hc hb hl hh hm;have hall:(Instr.sliceAt t (.slice A n cap) vl vh vm).run aj w=.ok (.slice (if m=l then A else A.map (·.add (l*bP e))) (h-l) (m-l)) w:=by
   simp[Instr.sliceAt,run_underlying hu,Instr.slice,hrun,cB hi',hs]
  refine⟨_,_,hK,?_,hall⟩;simp only[bs];refine⟨_,m-l,rfl,om,fun h0=>?_⟩
  obtain⟨b,off,rfl,hlt,hM,hj⟩:=hbl om;rw[if_neg om];refine⟨b,off+l*bP e,by simp[gH],hlt,hM,fun j hjn=>?_⟩
  obtain⟨u,hu1,hu2⟩:=hj (l+j) om;refine⟨u,?_,hu2⟩;rw[cI,aS (bP e) l,<-Nat.add_assoc]at hu1;exact hu1
 ·rename_i e he;obtain⟨hu,i,hi',hs⟩:=im he;simp only[bs]at hx;subst hx;obtain⟨l,h',m,hK,h1,h2,h3,h4,hrun⟩:=qA (ah 0) h hl hh hm;obtain rfl:l=0:=om
  obtain rfl:h'=0:=om
  obtain rfl:m=0:=om
  exact⟨_,.slice ac 0 0,hK,by simp[bs],by simp[Instr.sliceAt,run_underlying hu,Instr.slice,hrun,cB hi']⟩
 ·exact h.elim
def Am(t:TypeId)(x:AV)(K:AV->Prop):Prop:=match c9 t,x with
 | some _,.sl _ _ _ len=>K (.int .i64 len)
 | some _,.lst _ n _=>K (.int .i64 n)
 | some _,.nil=>K (.int .i64 0)
 | ac,.mag n=>t=48/\K (.int .i64 (nl n))
 | _,_=>False
theorem wC{t ty:TypeId}{x:AV}{K:AV->Prop}(h:Am t x K){w:World}{M:Nat->Prop}{v:Value}(hx:bs w M x v) :
  ∃z u,K z/\bs w M z u/\(Builtin.len_ #[t] ty #[v]).run aj w=.ok u w:=by
 unfold Am at h;split at h
 ·rename_i e es b off len he;obtain⟨hu,_⟩:=im he;simp only[bs]at hx;obtain⟨cap,cs,ty,fr,rfl,_⟩:=hx;exact⟨_,.int .i64 len,h,by simp[bs],by simp[Builtin.len_,run_underlying hu,goInt]⟩
 ·rename_i e es n g he;obtain⟨hu,_⟩:=im he;simp only[bs]at hx;obtain⟨A,c,rfl,_⟩:=hx;exact⟨_,.int .i64 n,h,by simp[bs],by simp[Builtin.len_,run_underlying hu,goInt]⟩
 ·rename_i e he;obtain⟨hu,_⟩:=im he;simp only[bs]at hx;subst hx;exact⟨_,.int .i64 0,h,by simp[bs],by simp[Builtin.len_,run_underlying hu,goInt]⟩
 ·rename_i n he;obtain⟨rfl,h⟩:=h;simp only[bs]at hx;obtain⟨neg,A,k,c,xs,e,hnc,hU,hT,hv⟩:=hx
  cases e
  have hk:k=nl n:=by
   rw[aL hU hT];congr 1;simp[sg]at hv;omega
  rw[<-hk]at h;exact⟨_,.int .i64 k,h,by simp[bs],by simp[Builtin.len_,run_underlying underlying48,goInt]⟩
 ·exact h.elim
def qm(t:TypeId)(d s:AV)(S:St)(K:AV->St->Prop):Prop:=match c9 t,d with
 | some e,.sl es b off len=>(match S b,wZ S s with
  | some X,some (es',m,h,_)=>es=bP e/\es'=es/\X.es=es/\off+len<=X.n/\m=len/\0<m/\(∀j,j<m->dI es (h j)) /\
   K (.int .i64 len) (S.upd b { X with g:=fun j=>if off<=j/\j<off+len then h (j-off)else X.g j })
  | _,_=>False)
 | _,_=>False
theorem Cd{t t' ty:TypeId}{d s:AV}{S:St}{K:AV->St->Prop}(h:qm t d s S K){w:World}(hs:dN w S){vd vs:Value}(hd:bs w S.dom d vd)(hsv:bs w S.dom s vs) :
  Az (Builtin.copy_ #[t,t'] ty #[vd,vs]) w S K:=by
 unfold qm at h;split at h
 ·rename_i e es b off len he;obtain⟨hu,i,hi,hsz⟩:=im he;split at h
  ·rename_i X es' m f o hX hel;obtain⟨rfl,rfl,hes,hn,rfl,hm,hst,hK⟩:=h;obtain⟨xb,xo,xc,us,rfl,u1,u2,u3⟩:=yE hs hsv hel hm;simp only[bs]at hd;obtain⟨cap,cs',ty',fr',rfl,_,_,_⟩:=hd;have hstl:∀z∈dF f 0 m,dI X.es z:=fun z hz=>by
    obtain⟨k,hk,rfl⟩:=nr f m 0 z hz;rw[aF,hes];exact hst k hk
   obtain⟨cs,hb,hfit,ho,hS,hG⟩:=oT hs hX (dF f 0 m) us u1 hstl off (by rw[jk];exact hn)
   rw[hes]at hfit hS hG;generalize hfl:us.flatMap (fun u=>u.cells.toList)=fl at *;have hfl2:fl.length=m*i.size:=by rw[u2,hsz,aS]
   have hf:=run_firstCells_some (P:=aj) w i.size m ⟨xb,xo,ac⟩ m xc fl hfl2 (fun j v hj=>by
    rw[gH,u3 j (by rw[<-u2];exact(cO.1 hj).1)];exact hj)
   have hst2:=i9 aj (b:=b) (off:=bP e*off) (ty:=X.ty) fl w cs 0 hb (by rw[dd];exact hfit) ho
   rw[dd]at hst2;have hrun:(Builtin.copy_ #[t,t'] ty #[.slice (some ⟨b,bP e*off,ac⟩) m cap,.slice (some ⟨xb,xo,ac⟩) m xc]).run aj w=.ok (.int .i64 m) (eT w b (d6 cs (bP e*off) fl) X.ty):=by
    simp[Builtin.copy_,run_underlying hu,Builtin.lenOf,cB hi,hf,hst2,goInt]
   have hg:ib X.g off (dF f 0 m)=fun j=>if off<=j/\j<off+m then f (j-off)else X.g j:=by
    funext j;simp only[ib,jk];split
    ·rw[qy _ _ _ _ om,aF]
    ·rfl
   rw[hg]at hS hG;rw[hes]at hK;exact⟨_,.int .i64 m,_,_,hK,by simp[bs],hS,hG,hrun⟩
  ·exact h.elim
 ·exact h.elim
theorem rj(off:Nat):∀(l:List Value) (k:Nat) (cs:Array Value),(l.zipIdx k).foldl (fun(cs:Array Value) (p:Value×Nat)=>cs.setIfInBounds (off+p.2) p.1) cs=d6 cs (off+k) l
 | [],_,_=>rfl
 | v::l,k,cs=>by
  simp only[List.zipIdx_cons,List.foldl_cons,d6];rw[rj off l (k+1)];rfl
def dY(k:Nat):List AV->List (Nat×AV)
 | []=>[]
 | x::l=>(k,x)::dY (k+1) l
def kG(k:Nat):List Value->List (Nat×Value)
 | []=>[]
 | x::l=>(k,x)::kG (k+1) l
theorem qc:∀(a b:List Value) (cs:Array Value) (o:Nat),d6 cs o (a++b)=d6 (d6 cs o a) (o+a.length) b
 | [],b,cs,o=>by simp[d6]
 | x::a,b,cs,o=>by simp only[mY,d6,cD];rw[qc a b];congr 1;omega
theorem Br{w:World}{M:Nat->Prop}{es:Nat}:∀(l:List AV) (vs:List Value) (k:Nat) (cs:Array Value),bq w M l vs->(∀z∈l,dI es z)->es*(k+l.length)<=cs.size ->
  Instr.fill (fun i=>some (i*es,es)) cs (kG k vs)=some (d6 cs (es*k) (vs.flatMap (fun u=>u.cells.toList)))
 | [],[],k,cs,_,_,_=>by simp[kG,Instr.fill,d6]
 | a::l,v::vs,k,cs,hr,hs,hn=>by
  simp only[bq]at hr;obtain⟨h1,_,_⟩:=pJ (hs a (er ..)) hr.1;simp only[cD]at hn;have hk:es*(k+1)<=cs.size:=bV (a9 _ om) hn;have hfit:¬(cs.size<k*es+es):=by rw[ep,aS]at hk;omega
  have ih:=Br l vs (k+1) (d6 cs (k*es) v.cells.toList) hr.2 (fun z hz=>hs z (dG _ hz)) (by rw[gk];rw[(om:k+1+l.length=k+(l.length+1))];exact hn)
  have hf:v.cells.zipIdx.foldl (fun(cs:Array Value) (p:Value×Nat)=>cs.setIfInBounds (k*es+p.2) p.1) cs=d6 cs (k*es) v.cells.toList:=by
   rw[<-Array.foldl_toList,Array.toList_zipIdx,rj];rfl
  simp only[kG,Instr.fill];rw[if_neg (by simp[h1];omega)]
  have hf2:(v.cells.zipIdx.foldl (fun(cs:Array Value) x=>match x with|(c,j)=>cs.setIfInBounds (k*es+j) c) cs)=d6 cs (k*es) v.cells.toList:=hf
  rw[hf2,ih,de,qc,aS k es];congr 2;rw[Array.length_toList,h1,ep]
 | [],_::_,_,_,h,_,_=>by simp[bq]at h
 | _::_,[],_,_,h,_,_=>by simp[bq]at h
theorem zD(cs:Array Value)(l:List Value)(h:cs.size=l.length):d6 cs 0 l=l.toArray:=by
 apply pF;intro i;rw[gF _ _ _ _ om];split
 ·simp
 ·rename_i hc;rw[fm om,fm (by simp;omega)]
def cW(t:TypeId)(n:Nat)(ps:List (Nat×AV))(S:St)(K:AV->St->Prop):Prop:=match c9 t with
 | some e=>ps=dY 0 (ps.map (·.2))/\ps.length=n/\n<=16/\(fD e).isSome=true/\(∀p∈ps,dI (bP e) p.2)/\∀b,S b=ac->K (.sl (bP e) b 0 n) (S.upd b ⟨e,bP e,n,fun j=>(ps.map (·.2)).getD j .any⟩)
 | ac=>False
def ou(w:World)(M:Nat->Prop):List (Nat×AV)->List (Nat×Value)->Prop
 | [],[]=>True
 | p::l,q::r=>p.1=q.1/\bs w M p.2 q.2/\ou w M l r
 | _,_=>False
theorem ot{w:World}{M:Nat->Prop}:∀(ps:List (Nat×AV)) (qs:List (Nat×Value)),ou w M ps qs->bq w M (ps.map (·.2)) (qs.map (·.2))/\∀k,ps=dY k (ps.map (·.2))->qs=kG k (qs.map (·.2))
 | [],[],_=>⟨by simp[bq],fun _ _=>rfl⟩
 | p::l,q::r,h=>by
  simp only[ou]at h;obtain⟨h1,h2⟩:=ot l r h.2.2;refine⟨by simp only[cq,bq];exact⟨h.2.1,h1⟩,fun k hk=>?_⟩
  simp only[cq,dY,r7.injEq]at hk;simp only[cq,kG,r7.injEq];refine⟨?_,h2 (k+1) hk.2⟩;have:=hk.1;obtain⟨p1,p2⟩:=p;obtain⟨q1,q2⟩:=q;simp at this h;simp[<-h.1,this]
 | [],_::_,h=>h.elim
 | _::_,[],h=>h.elim
theorem pl{t e:TypeId}{n:Nat}{ps:List (Nat×AV)}{S:St}(he:c9 t=some e)(hps:ps=dY 0 (ps.map (·.2)))(hlen:ps.length=n)(hn:n<=16)(hze:(fD e).isSome=true)(hst:∀p∈ps,dI (bP e) p.2){w:World}(hs:dN w S){qs:List (Nat×Value)}(hp:ou w S.dom ps qs) :
  (Instr.buildSlice t n qs.toArray).run aj w=.ok (.slice (some ⟨w.heap.size,0,ac⟩) n n) (w.alloc (.cells ((qs.map (·.2)).flatMap (fun u=>u.cells.toList)).toArray e)):=by
 obtain⟨hu,i,hi,hsz⟩:=im he;obtain⟨zx,zv,hz⟩:=uf hze;obtain⟨i',g1,g2,g3,g4,g5,g6,g7,g8⟩:=ni hz;rw[hi]at g1;cases g1;obtain⟨hr,hq⟩:=ot ps qs hp;have hq0:=hq 0 hps;have hl2:(ps.map (·.2)).length=n:=by simp[hlen]
 generalize hxs:ps.map (·.2)=xs at *
 generalize hvs:qs.map (·.2)=vs at *
 have hstx:∀z∈xs,dI (bP e) z:=fun z hz=>by
  rw[<-hxs]at hz;obtain⟨p,hp1,rfl⟩:=fM.1 hz;exact hst p hp1
 obtain⟨n1,n2,n3,n4⟩:=kL hs e xs vs hr hstx;rw[hl2]at n2 n3 n4;have hes2:bP e<=2:=by unfold bP;split<;>omega
 have hmul:n*bP e<=32:=bV (Nat.mul_le_mul hn hes2) om;have hsmall:¬(16777216<n*i.size):=by rw[hsz];omega
 have hfill:∀cs:Array Value,cs.size=n*i.size->Instr.fill (fun j=>some (j*i.size,i.size)) cs qs=some (vs.flatMap (fun u=>u.cells.toList)).toArray:=by
  intro cs hcs;rw[hq0,hsz,Br xs vs 0 cs hr hstx (by rw[hcs,hsz,aF,hl2,aS];exact ah _),dT,zD _ _ (by rw[hcs,hsz,n4,aS])]
 by_cases h0:n*i.size=0
 ·have hfill0:=hfill (Array.map (fun _=>default) (Array.range 0)) (by simp[h0])
  simp[Instr.buildSlice,run_underlying hu,cB hi,h0,newRow,hfill0]
 ·have hfill1:=hfill ((Array.range (n*i.size)).map (zv.cells[· % zv.cells.size]!)) sm
  simp[Instr.buildSlice,run_underlying hu,cB hi,hsmall,newRow,zeroValue,typeInfo,hi,g2,hfill1];intro hc;exact absurd hc h0
theorem rO{t:TypeId}{n:Nat}{ps:List (Nat×AV)}{S:St}{K:AV->St->Prop}(h:cW t n ps S K){w:World}(hs:dN w S){qs:List (Nat×Value)}(hp:ou w S.dom ps qs) :
  Az (Instr.buildSlice t n qs.toArray) w S K:=by
 unfold cW at h
 cases he:c9 t with
 | none=>rw[he]at h;exact h.elim
 | some e =>
  rw[he]at h;obtain⟨hps,hlen,hn,hze,hst,hK⟩:=h;have hrun:=pl he hps hlen hn hze hst hs hp;obtain⟨hr,_⟩:=ot ps qs hp;have hl2:(ps.map (·.2)).length=n:=by simp[hlen]
  have hstx:∀z∈ps.map (·.2),dI (bP e) z:=fun z hz=>by
   obtain⟨p,hp1,rfl⟩:=fM.1 hz;exact hst p hp1
  obtain⟨n1,n2,n3,n4⟩:=kL hs e _ _ hr hstx;rw[hl2]at n2 n3 n4;refine⟨_,_,_,_,hK _ n1,?_,n2,n3,hrun⟩;simp only[bs,dT,aF];exact⟨n,_,e,(0,0),rfl,ah _,heap_alloc_new w _,by rw[bX,n4];exact ah _⟩
def dZ(t:TypeId)(n:Nat)(ps:List (Nat×AV))(z:AV):Prop:=match c9 t with
 | some e=>ps=dY 0 (ps.map (·.2))/\ps.length=n/\n<=16/\(fD e).isSome=true/\(∀p∈ps,dI (bP e) p.2)/\z=.lst (bP e) n (fun j=>(ps.map (·.2)).getD j .any)
 | ac=>False
theorem rf{t:TypeId}{n:Nat}{ps:List (Nat×AV)}{S:St}{z:AV}(h:dZ t n ps z){w:World}(hs:dN w S){qs:List (Nat×Value)}(hp:ou w S.dom ps qs) :
  ∃v w',(Instr.buildSlice t n qs.toArray).run aj w=.ok v w'/\bs w' S.dom z v/\cw (fun _=>False) (fun _=>False) w w':=by
 unfold dZ at h
 cases he:c9 t with
 | none=>rw[he]at h;exact h.elim
 | some e =>
  rw[he]at h;obtain⟨hps,hlen,hn,hze,hst,rfl⟩:=h;have hrun:=pl he hps hlen hn hze hst hs hp;obtain⟨hr,_⟩:=ot ps qs hp;have hl2:(ps.map (·.2)).length=n:=by simp[hlen]
  have hstx:∀z∈ps.map (·.2),dI (bP e) z:=fun z hz=>by
   obtain⟨p,hp1,rfl⟩:=fM.1 hz;exact hst p hp1
  obtain⟨n1,n2,n3,n4⟩:=kL hs e _ _ hr hstx;obtain⟨l1,l2,l3,l4⟩:=gD (ps.map (·.2)) (qs.map (·.2)) hr hstx
  generalize hcs:((qs.map (·.2)).flatMap (fun u=>u.cells.toList))=cs at *
  have hsz:(w.alloc (.cells cs.toArray e)).heap.size=w.heap.size+1:=by simp
  have hkeep:∀k,k<w.heap.size->(w.alloc (.cells cs.toArray e)).heap[k]? = w.heap[k]?:=fun k hk=>by
   show(w.heap.push _)[k]? = _;rw[Array.getElem?_push_lt hk,aG hk]
  have hg:∀D:Nat->Prop,cw D D w (w.alloc (.cells cs.toArray e)):=fun D=>⟨rfl,rfl,rfl,om,fun k hk _=>hkeep k hk,fun k c ty fr hc=>⟨c,by rw[hkeep k (dW hc)];exact hc,rfl⟩,fun _ _ h=>h⟩
  refine⟨_,_,hrun,?_,hg _⟩;simp only[bs];refine⟨_,n,rfl,ah _,fun _=>⟨w.heap.size,0,rfl,om,fun hd=>hd n1,fun j hj=>?_⟩⟩
  obtain⟨u,u1,u2⟩:=l4 j om;refine⟨u,⟨cs.toArray,e,(0,0),heap_alloc_new w _,u2 cs.toArray 0 (fun q hq=>by simp)⟩,bs.grow hs.noU (hg _) _ _ u1⟩
def K5(op:UnOp)(x:AV)(K:AV->Prop):Prop:=match op,x with
 | .neg,.int k n=>K (.int k (k.wrap (0-n)))
 | .not,.bool b=>K (.bool (!b))
 | _,_=>False
theorem yP{op:UnOp}{x:AV}{K:AV->Prop}(h:K5 op x K){w:World}{M:Nat->Prop}{v:Value}(hx:bs w M x v):∃z u,K z/\bs w M z u/\(Op.unary op v).run aj w=.ok u w:=by
 unfold K5 at h;split at h
 ·rename_i k n;simp only[bs]at hx;subst hx;exact⟨_,.int k (k.wrap (0-n)),h,by simp[bs],by simp[Op.unary,Op.intArith]⟩
 ·rename_i b;simp only[bs]at hx;subst hx;exact⟨_,.bool (!b),h,by simp[bs],by simp[Op.unary]⟩
 ·exact h.elim
def rc:TypeId->Option IntKind
 | 2=>some .i64
 | 3=>some .i64
 | 5=>some .u8
 | 34=>some .i64
 | 97=>some .u64
 | _=>ac
def kChk(P:Program)(s t:TypeId):Option IntKind:=match P.underlying s,P.underlying t with
 | some _,some (.int k)=>some k
 | _,_=>ac
def xm(s:TypeId):Bool:=s==2||s==3||s==5||s==25||s==41||s==97
def rK(s d:TypeId)(x:AV)(K:AV->Prop):Prop:=match rc d,x with
 | some k,.int _ n=>xm s=true/\K (.int k (k.wrap n))
 | _,_=>False
theorem Jz{s d:TypeId}{k:IntKind}(hs:xm s=true)(hd:rc d=some k):∃u,aj.underlying s=some u/\aj.underlying d=some (.int k):=by
 have h1:∀u,(aj.underlying s).isSome=true->aj.underlying d=some u->∃x,aj.underlying s=some x/\aj.underlying d=some u:=fun u a b=>⟨_,Option.eq_some_of_isSome a,b⟩;refine h1 _ ?_ ?_
 ·unfold xm at hs;simp only[Bool.or_eq_true,beq_iff_eq]at hs;rcases hs with ((((rfl|rfl)|rfl)|rfl)|rfl)|rfl<;>kernel_rfl
 ·unfold rc at hd;split at hd<;>first|(cases hd;kernel_rfl)|cases hd
theorem tH{s d:TypeId}{x:AV}{K:AV->Prop}(h:rK s d x K){w:World}{M:Nat->Prop}{v:Value}(hx:bs w M x v):∃z u,K z/\bs w M z u/\(convert s d v).run aj w=.ok u w:=by
 unfold rK at h;split at h
 ·rename_i k k' n hk;obtain⟨hs,hK⟩:=h;obtain⟨u,h1,h2⟩:=Jz hs hk;simp only[bs]at hx;subst hx;refine⟨_,.int k (k.wrap n),hK,by simp[bs],?_⟩
  simp only[convert,Sem.run_bind,run_underlying h1,run_underlying h2,Result.andThen_ok];simp[Conv.intToInt]
 ·exact h.elim
def KP(P:Program)(f:Nat):Bool:=match P.funcs[f]? with
 | some fn => fn.body.isSome && fn.name != "runtime.NumGoroutine"
 | ac=>false
theorem LX:(cn 259).all (fun i=>i==241||(i==242||KP aj (i+11)))=true:=by kernel_rfl
theorem Hm{f:Nat}(h:(11<=f/\f<270)/\f≠252/\f≠253)(args:Array Value)(w:World):(callFunc f args).run aj w=.ok (.enter f args) w:=by
 have h1:=List.all_eq_true.1 LX (f-11) (by simp;omega)
 rw[(om:f-11+11=f)]at h1
 have e1:(f-11==241)=false:=by simp;omega
 have e2:(f-11==242)=false:=by simp;omega
 rw[e1,e2,Bool.false_or,Bool.false_or]at h1;unfold KP at h1
 cases hf:aj.funcs[f]? with
 | none=>rw[hf]at h1;cases h1
 | some fn =>
  rw[hf]at h1;simp only[aA,bne_iff_ne,ne_eq]at h1;simp[callFunc,hf,h1.2];intro hb;simp[hb]at h1
def Ik(x y:AV)(K:AV->Prop):Prop:=match x,y with
 | .int k a,.int k' b=>k=k'/\K (.int k (if b > a then b else a))
 | _,_=>False
theorem Dx{x y:AV}{K:AV->Prop}(h:Ik x y K){w:World}{M:Nat->Prop}{vx vy:Value}(hx:bs w M x vx)(hy:bs w M y vy)(ts:Array TypeId)(t:TypeId) :
  ∃z v,K z/\bs w M z v/\(Builtin.max_ ts t #[vx,vy]).run aj w=.ok v w:=by
 unfold Ik at h;split at h
 ·rename_i k a k' b;obtain⟨rfl,hK⟩:=h;simp only[bs]at hx hy;subst hx hy;exact⟨_,.int k (if b > a then b else a),hK,by simp[bs],by simp[Builtin.max_,Builtin.max2]⟩
 ·exact h.elim
def qI(f:Nat)(l r:List AV)(K:AV->Prop):Prop:=match l with
 | []=>K (.fn f r)
 | x::l=>r=[]/\K (.mfn f (x::l))
def rL(O:Tm)(c:Call)(S:St)(K:AV->St->Prop):Prop:=match c.callee with
 | .value f=>(match ev O f with
  | .fn f l=>((11<=f/\f<270)/\f≠252/\f≠253)/\cS f (c.args.toList.map (ev O)++l) S K
  | .mfn f l=>((11<=f/\f<270)/\f≠252/\f≠253)/\cS f (l++c.args.toList.map (ev O)) S K
  | _=>False)
 | .builtin .len=>(match c.args.toList,c.argTypes.toList with
  | [x],[t]=>Am t (ev O x) (fun z=>K z S)
  | _,_=>False)
 | .builtin .max=>(match c.args.toList with
  | [x,y]=>Ik (ev O x) (ev O y) (fun z=>K z S)
  | _=>False)
 | .builtin .append=>(match c.args.toList,c.argTypes.toList with
  | [s,x],[t,t']=>if t'=3 then mi t (ev O s) (ev O x) S K else eV t t' (ev O s) (ev O x) S K
  | _,_=>False)
 | .builtin .copy=>(match c.args.toList,c.argTypes.toList with
  | [s,x],[t,_]=>qm t (ev O s) (ev O x) S K
  | _,_=>False)
 | _=>False
def pr(t:TypeId)(ps:List (Nat×AV))(K:AV->Prop):Prop:=match t,ps with
 | 50,[]=>K (.big 0)
 | 167,[(0,x),(1,y)]=>dI 2 x/\dI 2 y/\K (.agg [x,y])
 | 183,[(0,x),(1,y)]=>dI 1 x/\dI 1 y/\K (.agg [x,y])
 | 218,[(0,x),(1,y)]=>dI 1 x/\dI 1 y/\K (.agg [x,y])
 | 107,[(0,x)]=>dI 1 x/\K (.agg [x,.int .i64 0])
 | 195,[(0,x),(1,y)]=>dI 2 x/\dI 2 y/\K (.agg [x,y])
 | 238,[(0,x),(1,y),(2,z)]=>dI 1 x/\dI 1 y/\dI 1 z/\K (.agg [x,y,z])
 | 160,[(0,x),(1,y)]=>dI 1 x/\dI 1 y/\K (.agg [x,y,.nil,.nfn])
 | 202,[(0,x),(1,y)]=>dI 1 x/\dI 1 y/\K (.agg [x,y])
 | 197,[(0,x),(1,y),(2,z),(3,.agg [p,q]),(4,.agg [r,s])]=>dI 2 x/\dI 2 y/\dI 2 z/\dI 2 p/\dI 2 q/\dI 2 r/\dI 2 s/\K (.agg [x,y,z,p,q,r,s])
 | _,_=>False
theorem fx{t:TypeId}{z:Value}{s b:Nat}(hc:lh aj t=some (z,s,b)):∃i,aj.info? t=some i/\i.zero=some z/\i.size=s:=by
 unfold lh at hc
 cases hi:aj.info? t with
 | none=>rw[hi]at hc;simp at hc
 | some i =>
  rw[hi]at hc;simp only[da,cr,Prod.mk.injEq]at hc;obtain⟨z2,h1,h2,h3,h4⟩:=hc;exact⟨i,rfl,by rw[h1,h2],h3⟩
theorem z107:lh aj 107=some (.agg #[.slice ac 0 0,.int .i64 0],2,32):=by kernel_rfl
theorem z183:lh aj 183=some (.agg #[.slice ac 0 0,.slice ac 0 0],2,48):=by kernel_rfl
theorem z218:lh aj 218=some (.agg #[.slice ac 0 0,.int .i64 0],2,32):=by kernel_rfl
theorem z167:lh aj 167=some (.agg #[.bool false,.slice ac 0 0,.bool false,.slice ac 0 0],4,64):=by kernel_rfl
theorem z50:lh aj 50=some (.agg #[.bool false,.slice ac 0 0],2,32):=by kernel_rfl
theorem z52:lh aj 52=some (.slice ac 0 0,1,24):=by kernel_rfl
theorem z216:lh aj 216=some (.slice ac 0 0,1,24):=by kernel_rfl
theorem z22:lh aj 22=some (.slice ac 0 0,1,24):=by kernel_rfl
theorem z195:lh aj 195=some (.agg #[.bool false,.slice ac 0 0,.bool false,.slice ac 0 0],4,64):=by kernel_rfl
theorem z197:lh aj 197=some (.agg (bR 7 [.bool false,.slice ac 0 0]).flatten.toArray,14,224):=by kernel_rfl
theorem z160:lh aj 160=some (.agg #[.slice ac 0 0,.slice ac 0 0,.slice ac 0 0,.nilFunc],4,80):=by kernel_rfl
theorem z202:lh aj 202=some (.agg #[.int .u64 0,.int .u64 0],2,16):=by kernel_rfl
theorem z97:lh aj 97=some (.int .u64 0,1,8):=by kernel_rfl
theorem z59:lh aj 59=some (.slice ac 0 0,1,24):=by kernel_rfl
theorem z2:lh aj 2=some (.int .i64 0,1,8):=by kernel_rfl
theorem z238:lh aj 238=some (.agg #[.int .i64 0,.int .i64 0,.int .i64 0],3,24):=by kernel_rfl
theorem z3:lh aj 3=some (.int .i64 0,1,8):=by kernel_rfl
theorem fO{w:World}{M:Nat->Prop}{x:AV}{v:Value}(h:dI 1 x)(hr:bs w M x v):v.cells=#[v]:=by
 rcases zz h hr with⟨_,h1,_⟩|⟨e,_⟩
 ·exact pP h1
 ·omega
theorem fN{w:World}{M:Nat->Prop}{x:AV}{v:Value}(h:dI 2 x)(hr:bs w M x v):∃p q,v=.agg #[p,q]:=by
 rcases zz h hr with⟨e,_⟩|⟨_,p,q,e,_⟩
 ·omega
 ·exact⟨p,q,e⟩
theorem rM{t:TypeId}{ps:List (Nat×AV)}{K:AV->Prop}(h:pr t ps K){w:World}{M:Nat->Prop}{qs:List (Nat×Value)}(hp:ou w M ps qs) :
  ∃z u,K z/\bs w M z u/\(Instr.build t qs.toArray).run aj w=.ok u w:=by
 unfold pr at h;split at h
 ·cases qs with
  | cons _ _=>exact hp.elim
  | nil =>
   refine⟨_,.agg #[.bool false,.slice ac 0 0],h,by simp only[bs];exact d7.zero w,?_⟩
   obtain⟨i,h1,h2,_⟩:=ni (t:=50) (es:=2) (x:=.big 0) (z:=.agg #[.bool false,.slice ac 0 0]) rfl;have hu:=underlying50;simp[Instr.build,zeroValue,typeInfo,h1,h2,Instr.fill,Value.cells]
 ·rename_i x y;obtain⟨sx,sy,hK⟩:=h
  match qs,hp with
  | [(a,vx),(b,vy)],hp =>
   simp only[ou]at hp;obtain⟨rfl,rx,rfl,ry,_⟩:=hp;obtain⟨p1,p2,rfl⟩:=fN sx rx;obtain⟨q1,q2,rfl⟩:=fN sy ry;obtain⟨i,i1,i2,i3⟩:=fx z167;obtain⟨j,j1,j2,j3⟩:=fx z50;refine⟨_,.agg #[p1,p2,q1,q2],hK,by simp only[bs];exact⟨[.agg #[p1,p2],.agg #[q1,q2]],by simp[Value.cells],by simp only[bq];exact⟨rx,ry,trivial⟩⟩,?_⟩
   simp[Instr.build,zeroValue,typeInfo,i1,i2,run_underlying underlying167,cB j1,j3,Instr.fill,Value.cells]
  | [],hp=>exact hp.elim
  | [_],hp=>exact hp.2.2.elim
  | _::_::_::_,hp=>exact hp.2.2.2.2.elim
 ·rename_i x y;obtain⟨sx,sy,hK⟩:=h
  match qs,hp with
  | [(a,vx),(b,vy)],hp =>
   simp only[ou]at hp;obtain⟨rfl,rx,rfl,ry,_⟩:=hp;have cx:=fO sx rx;have cy:=fO sy ry;obtain⟨i,i1,i2,i3⟩:=fx z183;obtain⟨j,j1,j2,j3⟩:=fx z52;refine⟨_,.agg #[vx,vy],hK,by simp only[bs];exact⟨[vx,vy],by simp[cx,cy],by simp only[bq];exact⟨rx,ry,trivial⟩⟩,?_⟩
   simp[Instr.build,zeroValue,typeInfo,i1,i2,run_underlying underlying183,cB j1,j3,Instr.fill,cx,cy];simp[Value.cells]
  | [],hp=>exact hp.elim
  | [_],hp=>exact hp.2.2.elim
  | _::_::_::_,hp=>exact hp.2.2.2.2.elim
 ·rename_i x y;obtain⟨sx,sy,hK⟩:=h
  match qs,hp with
  | [(a,vx),(b,vy)],hp =>
   simp only[ou]at hp;obtain⟨rfl,rx,rfl,ry,_⟩:=hp;have cx:=fO sx rx;have cy:=fO sy ry;obtain⟨i,i1,i2,i3⟩:=fx z218;obtain⟨j,j1,j2,j3⟩:=fx z216;obtain⟨k,k1,k2,k3⟩:=fx z3;refine⟨_,.agg #[vx,vy],hK,by simp only[bs];exact⟨[vx,vy],by simp[cx,cy],by simp only[bq];exact⟨rx,ry,trivial⟩⟩,?_⟩
   simp[Instr.build,zeroValue,typeInfo,i1,i2,run_underlying underlying218,cB j1,j3,cB k1,k3,Instr.fill,cx,cy];simp[Value.cells]
  | [],hp=>exact hp.elim
  | [_],hp=>exact hp.2.2.elim
  | _::_::_::_,hp=>exact hp.2.2.2.2.elim
 ·rename_i x;obtain⟨sx,hK⟩:=h
  match qs,hp with
  | [(a,vx)],hp =>
   simp only[ou]at hp;obtain⟨rfl,rx,_⟩:=hp;have cx:=fO sx rx;obtain⟨i,i1,i2,i3⟩:=fx z107;obtain⟨j,j1,j2,j3⟩:=fx z22;obtain⟨k,k1,k2,k3⟩:=fx z3;refine⟨_,.agg #[vx,.int .i64 0],hK,by simp only[bs];exact⟨[vx,.int .i64 0],by simp[cx];rfl,by simp only[bq,bs];exact⟨rx,trivial,trivial⟩⟩,?_⟩
   simp[Instr.build,zeroValue,typeInfo,i1,i2,run_underlying underlying107,cB j1,j3,cB k1,k3,Instr.fill,cx];simp[Value.cells]
  | [],hp=>exact hp.elim
  | _::_::_,hp=>exact hp.2.2.elim
 ·rename_i x y;obtain⟨sx,sy,hK⟩:=h
  match qs,hp with
  | [(a,vx),(b,vy)],hp =>
   simp only[ou]at hp;obtain⟨rfl,rx,rfl,ry,_⟩:=hp;obtain⟨p1,p2,rfl⟩:=fN sx rx;obtain⟨q1,q2,rfl⟩:=fN sy ry;obtain⟨i,i1,i2,i3⟩:=fx z195;obtain⟨j,j1,j2,j3⟩:=fx z50;refine⟨_,.agg #[p1,p2,q1,q2],hK,by simp only[bs];exact⟨[.agg #[p1,p2],.agg #[q1,q2]],by simp[Value.cells],by simp only[bq];exact⟨rx,ry,trivial⟩⟩,?_⟩
   simp[Instr.build,zeroValue,typeInfo,i1,i2,run_underlying underlying195,cB j1,j3,Instr.fill,Value.cells]
  | [],hp=>exact hp.elim
  | [_],hp=>exact hp.2.2.elim
  | _::_::_::_,hp=>exact hp.2.2.2.2.elim
 ·rename_i x y z;obtain⟨sx,sy,sz,hK⟩:=h
  match qs,hp with
  | [(a,vx),(b,vy),(c,vz)],hp =>
   simp only[ou]at hp;obtain⟨rfl,rx,rfl,ry,rfl,rz,_⟩:=hp;have cx:=fO sx rx;have cy:=fO sy ry;have cz:=fO sz rz;obtain⟨i,i1,i2,i3⟩:=fx z238;obtain⟨j,j1,j2,j3⟩:=fx z2;refine⟨_,.agg #[vx,vy,vz],hK,by simp only[bs];exact⟨[vx,vy,vz],by simp[cx,cy,cz],by simp only[bq];exact⟨rx,ry,rz,trivial⟩⟩,?_⟩
   simp[Instr.build,zeroValue,typeInfo,i1,i2,run_underlying underlying238,cB j1,j3,Instr.fill,cx,cy,cz];simp[Value.cells]
  | [],hp=>exact hp.elim
  | [_],hp=>exact hp.2.2.elim
  | [_,_],hp=>exact hp.2.2.2.2.elim
  | _::_::_::_::_,hp=>exact hp.2.2.2.2.2.2.elim
 ·rename_i x y;obtain⟨sx,sy,hK⟩:=h
  match qs,hp with
  | [(a,vx),(b,vy)],hp =>
   simp only[ou]at hp;obtain⟨rfl,rx,rfl,ry,_⟩:=hp;have cx:=fO sx rx;have cy:=fO sy ry;obtain⟨i,i1,i2,i3⟩:=fx z160;obtain⟨j,j1,j2,j3⟩:=fx z59;obtain⟨k,k1,k2,k3⟩:=fx z52;refine⟨_,.agg #[vx,vy,.slice ac 0 0,.nilFunc],hK,by simp only[bs];exact⟨[vx,vy,.slice ac 0 0,.nilFunc],by simp[cx,cy];rfl,by simp only[bq,bs];exact⟨rx,ry,trivial,trivial,trivial⟩⟩,?_⟩
   simp[Instr.build,zeroValue,typeInfo,i1,i2,run_underlying underlying160,cB j1,j3,cB k1,k3,Instr.fill,cx,cy];simp[Value.cells]
  | [],hp=>exact hp.elim
  | [_],hp=>exact hp.2.2.elim
  | _::_::_::_,hp=>exact hp.2.2.2.2.elim
 ·rename_i x y;obtain⟨sx,sy,hK⟩:=h
  match qs,hp with
  | [(a,vx),(b,vy)],hp =>
   simp only[ou]at hp;obtain⟨rfl,rx,rfl,ry,_⟩:=hp;have cx:=fO sx rx;have cy:=fO sy ry;obtain⟨i,i1,i2,i3⟩:=fx z202;obtain⟨j,j1,j2,j3⟩:=fx z97;refine⟨_,.agg #[vx,vy],hK,by simp only[bs];exact⟨[vx,vy],by simp[cx,cy],by simp only[bq];exact⟨rx,ry,trivial⟩⟩,?_⟩
   simp[Instr.build,zeroValue,typeInfo,i1,i2,run_underlying underlying202,cB j1,j3,Instr.fill,cx,cy];simp[Value.cells]
  | [],hp=>exact hp.elim
  | [_],hp=>exact hp.2.2.elim
  | _::_::_::_,hp=>exact hp.2.2.2.2.elim
 ·rename_i x y z p q r s;obtain⟨sx,sy,sz,sp,sq,sr,ss,hK⟩:=h
  match qs,hp with
  | [(a,vx),(b,vy),(c,vz),(d,vp),(e,vr)],hp =>
   simp only[ou]at hp;obtain⟨rfl,rx,rfl,ry,rfl,rz,rfl,rp,rfl,rr,_⟩:=hp;simp only[bs]at rp rr;obtain⟨ps,rfl,rp⟩:=rp;obtain⟨rs,rfl,rr⟩:=rr
   match ps,rs,rp,rr with
   | [vp,vq],[vr,vs],rp,rr =>
    simp only[bq]at rp rr;obtain⟨rp,rq,_⟩:=rp;obtain⟨rr,rs,_⟩:=rr;obtain⟨a1,a2,rfl⟩:=fN sx rx;obtain⟨b1,b2,rfl⟩:=fN sy ry;obtain⟨c1,c2,rfl⟩:=fN sz rz;obtain⟨d1,d2,rfl⟩:=fN sp rp;obtain⟨e1,e2,rfl⟩:=fN sq rq;obtain⟨f1,f2,rfl⟩:=fN sr rr;obtain⟨g1,g2,rfl⟩:=fN ss rs;obtain⟨i,i1,i2,i3⟩:=fx z197;obtain⟨j,j1,j2,j3⟩:=fx z50;obtain⟨k,k1,k2,k3⟩:=fx z195;refine⟨_,.agg #[a1,a2,b1,b2,c1,c2,d1,d2,e1,e2,f1,f2,g1,g2],hK,by
     simp only[bs];exact⟨[.agg #[a1,a2],.agg #[b1,b2],.agg #[c1,c2],.agg #[d1,d2],.agg #[e1,e2],.agg #[f1,f2],.agg #[g1,g2]],by simp[Value.cells],by simp only[bq];exact⟨rx,ry,rz,rp,rq,rr,rs,trivial⟩⟩,?_⟩
    simp[Instr.build,zeroValue,typeInfo,i1,i2,run_underlying underlying197,cB j1,j3,cB k1,k3,Instr.fill,Value.cells]
   | [],_,rp,_=>simp[bq]at rp
   | [_],_,rp,_=>simp[bq]at rp
   | _::_::_::_,_,rp,_=>simp[bq]at rp
   | [_,_],[],_,rr=>simp[bq]at rr
   | [_,_],[_],_,rr=>simp[bq]at rr
   | [_,_],_::_::_::_,_,rr=>simp[bq]at rr
  | [],hp=>exact hp.elim
  | [_],hp=>exact hp.2.2.elim
  | [_,_],hp=>exact hp.2.2.2.2.elim
  | [_,_,_],hp=>exact hp.2.2.2.2.2.2.elim
  | [_,_,_,_],hp=>exact hp.2.2.2.2.2.2.2.2.elim
  | _::_::_::_::_::_::_,hp=>exact hp.2.2.2.2.2.2.2.2.2.2.elim
 ·exact h.elim
theorem yT{w:World}{M:Nat->Prop}:∀(l:List AV) (vs:List Value),bq w M l vs->∀(i:Nat) (z:AV),l[i]? = some z->∃v,vs[i]? = some v/\bs w M z v
 | [],_,_,i,z,h=>by simp at h
 | x::l,v::vs,hr,0,z,h=>by simp only[bq]at hr;simp at h;subst h;exact⟨v,sm,hr.1⟩
 | x::l,v::vs,hr,i+1,z,h=>by simp only[bq]at hr;simp at h;obtain⟨u,h1,h2⟩:=yT l vs hr.2 i z h;exact⟨u,by simpa using h1,h2⟩
 | _::_,[],hr,_,_,_=>by simp[bq]at hr
def An(t:TypeId)(x i:AV)(K:AV->Prop):Prop:=match x,i with
 | .agg l,.int _ n=>(t=195/\∃p q,l=[p,q]/\dI 2 p/\dI 2 q/\(n=0∨n=1)/\K (if n=0 then p else q)) ∨
  ((t=238/\l.length=3∨t=239/\l.length=8)/\(∀z∈l,dI 1 z)/\(0<=n/\n<(l.length:Int))/\K (l.getD n.toNat .any))
 | _,_=>False
theorem H6{w:World}{M:Nat->Prop}:∀(l:List AV) (vs:List Value),(∀z∈l,dI 1 z)->bq w M l vs->vs.flatMap (fun u=>u.cells.toList)=vs
 | [],[],_,_=>rfl
 | x::l,v::vs,hs,hr=>by
  simp only[bq]at hr;simp only[de,H6 l vs (fun z hz=>hs z (dG _ hz)) hr.2,fO (hs x (er ..)) hr.1];rfl
 | [],_::_,_,hr=>by simp[bq]at hr
 | _::_,[],_,hr=>by simp[bq]at hr
theorem Dy{t:TypeId}{x y:AV}{K:AV->Prop}(h:An t x y K){w:World}{M:Nat->Prop}{vx vy:Value}(hx:bs w M x vx)(hy:bs w M y vy) :
  ∃z v,K z/\bs w M z v/\(Instr.index t vx vy).run aj w=.ok v w:=by
 unfold An at h;split at h
 ·rename_i l k n;simp only[bs]at hx hy;subst hy;obtain⟨vs,rfl,hr⟩:=hx;rcases h with⟨rfl,p,q,rfl,sp,sq,hn,hK⟩|⟨ht,hs,⟨h0,h1⟩,hK⟩
  ·match vs,hr with
   | [vp,vq],hr =>
    simp only[bq]at hr;obtain⟨rp,rq,_⟩:=hr;obtain⟨a1,a2,rfl⟩:=fN sp rp;obtain⟨b1,b2,rfl⟩:=fN sq rq;obtain⟨j,j1,j2,j3⟩:=fx z50;rcases hn with rfl|rfl
    ·refine⟨_,.agg #[a1,a2],hK,by simpa using rp,?_⟩
     simp[Instr.index,asIntOf,run_underlying underlying195,cB j1,j3,part,isAgg,run_underlying underlying50,Value.cells]
    ·refine⟨_,.agg #[b1,b2],hK,by simpa using rq,?_⟩
     simp[Instr.index,asIntOf,run_underlying underlying195,cB j1,j3,part,isAgg,run_underlying underlying50,Value.cells]
   | [],hr=>simp[bq]at hr
   | [_],hr=>simp[bq]at hr
   | _::_::_::_,hr=>simp[bq]at hr
  ·rw[H6 l vs hs hr];have hlt:n.toNat<l.length:=om
   obtain⟨v,hv,hz⟩:=yT l vs hr n.toNat (l.getD n.toNat .any) (by simp[cL,List.getElem?_eq_getElem hlt])
   obtain⟨j,j1,j2,j3⟩:=fx z2;refine⟨_,v,hK,hz,?_⟩;rcases ht with⟨rfl,hl⟩|⟨rfl,hl⟩
   ·have h3:n<3:=om
    simp[Instr.index,asIntOf,run_underlying underlying238,cB j1,j3,part,isAgg,run_underlying underlying2,h0,h3,hv]
   ·have h3:n<8:=om
    simp[Instr.index,asIntOf,run_underlying underlying239,cB j1,j3,part,isAgg,run_underlying underlying2,h0,h3,hv]
 ·exact h.elim
def wB(o:Oper)(O:Tm)(S:St)(K:AV->St->Prop):Prop:=match o.op with
 | .move x=>K (ev O x) S
 | .assign x=>K (ev O x) S
 | .pick c x y=>(match ev O c with
  | .bool t=>K (if t then ev O x else ev O y) S
  | _=>False)
 | .alloc t=>lD t S K
 | .box t x=>jg t (ev O x) S K
 | .build t ps=>pr t (ps.toList.map fun p=>(p.1,ev O p.2)) (fun z=>K z S)
 | .buildSlice t n ps=>cW t n (ps.toList.map fun p=>(p.1,ev O p.2)) S K
 | .load t x=>nK t (ev O x) S (fun z=>K z S)
 | .store t x y=>oh t (ev O x) (ev O y) S (fun S'=>K .any S')
 | .nilCheck x=>(match ev O x with
  | .ptr es b i=>K (.ptr es b i) S
  | .pat es y=>K (.pat es y) S
  | _=>False)
 | .binOp op t x y _=>Ce op t (ev O x) (ev O y) (fun z=>K z S)
 | .unOp op _ x=>K5 op (ev O x) (fun z=>K z S)
 | .convert s d x=>rK s d (ev O x) (fun z=>K z S)
 | .makeFunc (.func f) fi cs=>qI f (fi.toList.map (ev O)) (cs.toList.map (ev O)) (fun z=>K z S)
 | .makeSlice t x y=>jU t (ev O x) (ev O y) S K
 | .slice t x lo hi mx=>jR t (ev O x) (lo.map (ev O)) (hi.map (ev O)) (mx.map (ev O)) (fun z=>K z S)
 | .fieldAddr t x f=>oo t (ev O x) f (fun z=>K z S)
 | .indexAddr t x i=>oi t (ev O x) (ev O i) (fun z=>K z S)
 | .index t x i=>An t (ev O x) (ev O i) (fun z=>K z S)
 | .extract x i=>(match ev O x with
  | .tup l=>(match l[i]? with
   | some z=>K z S
   | ac=>False)
  | _=>False)
 | .call c=>rL O c S K
 | _=>False
theorem fL{o:Oper}{a:Act}{w w':World}{v:Value}{next:Act->World->Prop}{Q:Exit->Act->World->Prop}(hr:(execOp a.eval o).run aj w=.ok (.value v) w')(hn:next (a.put o.dst v) w'):o.wp aj a w next Q:=by
 unfold Oper.wp;rw[hr];exact hn
theorem CG{o:Oper}{a:Act}{w w':World}{next:Act->World->Prop}{Q:Exit->Act->World->Prop}(hr:(execOp a.eval o).run aj w=.ok .skip w')(hn:next (a.put o.dst undef) w'):o.wp aj a w next Q:=by
 unfold Oper.wp;rw[hr];exact hn
theorem pw{O:Tm}{S:St}{N:Nat}{a:Act}{w:World}(h:RT O S N a w):∀ps:List (Nat×Operand),ou w S.dom (ps.map fun p=>(p.1,ev O p.2)) (ps.map fun p=>(p.1,a.eval p.2))
 | []=>by simp[ou]
 | p::ps=>by simp only[cq,ou];exact⟨trivial,h.ev p.2,pw h ps⟩
theorem nN{O:Tm}{S:St}{N:Nat}{a:Act}{w:World}(h:RT O S N a w):∀ps:List Operand,bq w S.dom (ps.map (ev O)) (ps.map a.eval)
 | []=>by simp[bq]
 | p::ps=>by simp only[cq,bq];exact⟨h.ev p,nN h ps⟩
theorem mH{w:World}{M:Nat->Prop}:∀(l l':List AV) (vs vs':List Value),bq w M l vs->bq w M l' vs'->bq w M (l++l') (vs++vs')
 | [],_,[],_,_,h=>by simpa using h
 | x::l,l',v::vs,vs',h,h'=>by simp only[mY,bq]at h ⊢;exact⟨h.1,mH l l' vs vs' h.2 h'⟩
 | [],_,_::_,_,h,_=>by simp[bq]at h
 | _::_,_,[],_,h,_=>by simp[bq]at h
theorem rT{w:World}{M:Nat->Prop}:∀(l:List AV) (vs:List Value),bq w M l vs->∀(i:Nat) (z:AV),l[i]? = some z->∃v,vs[i]? = some v/\bs w M z v
 | [],_,_,i,z,h=>by simp at h
 | x::l,v::vs,hr,0,z,h=>by simp only[bq]at hr;simp at h;subst h;exact⟨v,sm,hr.1⟩
 | x::l,v::vs,hr,i+1,z,h=>by simp only[bq]at hr;simp at h;obtain⟨u,h1,h2⟩:=rT l vs hr.2 i z h;exact⟨u,by simpa using h1,h2⟩
 | _::_,[],hr,_,_,_=>by simp[bq]at hr
theorem nL{O:Tm}{S:St}{N:Nat}{a:Act}{w:World}(h:RT O S N a w)(x:Option Operand):qK w S.dom (x.map (ev O)) (x.map a.eval):=by
 cases x with
 | none=>simp[qK]
 | some x=>simp only[Option.map_some,qK];exact h.ev x
theorem yy(a:Act)(ps:Array (Nat×Operand)):(ps.map fun(x:Nat×Operand)=>(x.1,a.eval x.2))=(ps.toList.map fun p=>(p.1,a.eval p.2)).toArray:=by apply fV;simp
theorem vV{o:Oper}{a:Act}{t:TypeId}{ps:Array (Nat×Operand)}(ho:o.op=.build t ps){w:World}:(execOp a.eval o).run aj w=((Instr.build t (ps.toList.map fun p=>(p.1,a.eval p.2)).toArray).run aj w).andThen fun v w'=>.ok (.value v) w':=by
 rw[<-yy];unfold execOp;rw[ho];simp
theorem oH{o:Oper}{a:Act}{t:TypeId}{n:Nat}{ps:Array (Nat×Operand)}(ho:o.op=.buildSlice t n ps){w:World}:(execOp a.eval o).run aj w=((Instr.buildSlice t n (ps.toList.map fun p=>(p.1,a.eval p.2)).toArray).run aj w).andThen fun v w'=>.ok (.value v) w':=by
 rw[<-yy];unfold execOp;rw[ho];simp
def Next_(K:AV->St->Prop)(S:St)(a:Act)(d:Option Nat)(w:World)(next:Act->World->Prop):Prop:=∀z v w' S',K z S'->bs w' S'.dom z v->dN w' S'->cw S.dom S'.dom w w'->next (a.put d v) w'
theorem rH{f:Nat}{fi cs:Array Operand}{O:Tm}{S:St}{K:AV->Prop}(h:qI f (fi.toList.map (ev O)) (cs.toList.map (ev O)) K){N:Nat}{a:Act}{w:World}(hr:RT O S N a w):∃z,K z/\bs w S.dom z (.func (.func f) (fi.map a.eval) (cs.map a.eval)):=by
 unfold qI at h;split at h
 ·rename_i hfi;have hfi:fi=#[]:=by apply fV;simpa using hfi
  refine⟨_,h,?_⟩;simp only[bs];exact⟨cs.toList.map a.eval,by rw[hfi];congr 1<;>apply fV<;>simp,nN hr _⟩
 ·rename_i x l hfi;have hcs:cs=#[]:=by apply fV;simpa using h.1
  refine⟨_,h.2,?_⟩;simp only[bs];exact⟨fi.toList.map a.eval,by rw[hcs];congr 1<;>apply fV<;>simp,by rw[<-hfi];exact nN hr _⟩
theorem kU{o:Oper}{O:Tm}{S:St}{K:AV->St->Prop}(h:wB o O S K){N:Nat}{a:Act}{w:World}(hr:RT O S N a w){next:Act->World->Prop}{Q:Exit->Act->World->Prop}
  (hn:Next_ K S a o.dst w next):o.wp aj a w next Q:=by
 have pure_:∀(s:Sem Value),(execOp a.eval o=do let x <-s;pure (.value x))->(∃z u,K z S/\bs w S.dom z u/\s.run aj w=.ok u w)->o.wp aj a w next Q:=by
  intro s he ⟨z,u,h1,h2,h3⟩;exact fL (by rw[he];simp[h3]) (hn z u w S h1 h2 hr.st (cw.refl _ _))
 have goes_:∀(s:Sem Value),(execOp a.eval o=do let x <-s;pure (.value x))->Az s w S K->o.wp aj a w next Q:=by
  intro s he ⟨z,u,w',S',h1,h2,h3,h4,h5⟩;exact fL (by rw[he];simp[h5]) (hn z u w' S' h1 h2 h3 h4)
 unfold wB at h;split at h
 ·rename_i x ho;exact fL (v:=a.eval x) (by simp[execOp,ho]) (hn _ _ w S h (hr.ev x) hr.st (cw.refl _ _))
 ·rename_i x ho;exact fL (v:=a.eval x) (by simp[execOp,ho]) (hn _ _ w S h (hr.ev x) hr.st (cw.refl _ _))
 ·rename_i c x y ho;have hc:=hr.ev c
  cases hcv:ev O c<;>rw[hcv]at h hc<;>try exact h.elim
  rename_i t;simp only[bs]at hc;refine fL (v:=if t then a.eval x else a.eval y) (by simp[execOp,ho,hc,asBool]) (hn _ _ w S h ?_ hr.st (cw.refl _ _))
  cases t
  ·exact hr.ev y
  ·exact hr.ev x
 ·rename_i t ho;exact goes_ (Instr.alloc t true (.tuple #[])) (by simp[execOp,ho]) (Ap h hr.st)
 ·rename_i t x ho;exact goes_ (Instr.box t (a.eval x)) (by simp[execOp,ho]) (DB h hr.st (hr.ev x))
 ·rename_i t ps ho;obtain⟨z,u,h1,h2,h3⟩:=rM h (pw hr ps.toList);refine fL (v:=u) ?_ (hn z u w S h1 h2 hr.st (cw.refl _ _));rw[vV ho,h3];rfl
 ·rename_i t n ps ho;obtain⟨z,u,w',S',h1,h2,h3,h4,h5⟩:=rO h hr.st (pw hr ps.toList);refine fL (v:=u) ?_ (hn z u w' S' h1 h2 h3 h4);rw[oH ho,h5];rfl
 ·rename_i t x ho;exact pure_ (Instr.loadAt t (a.eval x)) (by simp[execOp,ho]) (pq h hr.st (hr.ev x))
 ·rename_i t x y ho;obtain⟨w',S',h1,h2,h3,h4⟩:=Al h hr.st (hr.ev x) (hr.ev y);exact CG (by simp[execOp,ho,h4]) (hn _ _ w' S' h1 (by simp[bs]) h2 h3)
 ·rename_i x ho;have hx:=hr.ev x
  cases hxv:ev O x<;>rw[hxv]at h hx<;>try exact h.elim
  ·have hx':=hx;simp only[bs]at hx;exact fL (v:=a.eval x) (by simp[execOp,ho,hx]) (hn _ _ w S h hx' hr.st (cw.refl _ _))
  ·have hx':=hx;simp only[bs]at hx;obtain⟨b,off,u,hx,_⟩:=hx;exact fL (v:=a.eval x) (by simp[execOp,ho,hx]) (hn _ _ w S h hx' hr.st (cw.refl _ _))
 ·rename_i op t x y _ ho;have:=wE (ty:=t) h (hr.ev x) (hr.ev y) x y;exact pure_ (do eqGuard op t x y (a.eval x) (a.eval y);binOp op t (a.eval x) (a.eval y)) (by simp[execOp,ho]) this
 ·rename_i op t x ho;exact pure_ (Op.unary op (a.eval x)) (by simp[execOp,ho]) (yP h (hr.ev x))
 ·rename_i s d x ho;exact pure_ (convert s d (a.eval x)) (by simp[execOp,ho]) (tH h (hr.ev x))
 ·rename_i f fi cs ho;obtain⟨z,h1,h2⟩:=rH h hr;exact fL (v:=.func (.func f) (fi.map a.eval) (cs.map a.eval)) (by simp[execOp,ho,Instr.makeFunc]) (hn _ _ w S h1 h2 hr.st (cw.refl _ _))
 ·rename_i t x y ho;exact goes_ (Instr.makeSlice t (a.eval x) (a.eval y)) (by simp[execOp,ho]) (Cc h hr.st (hr.ev x) (hr.ev y))
 ·rename_i t x lo hi mx ho;exact pure_ (Instr.sliceAt t (a.eval x) (lo.map a.eval) (hi.map a.eval) (mx.map a.eval)) (by simp[execOp,ho]) (rG h (hr.ev x) (nL hr lo) (nL hr hi) (nL hr mx))
 ·rename_i t x f ho;exact pure_ (Instr.fieldAt t (a.eval x) f) (by simp[execOp,ho]) (rJ h (hr.ev x))
 ·rename_i t x i ho;exact pure_ (Instr.indexAt t (a.eval x) (a.eval i)) (by simp[execOp,ho]) (rI h (hr.ev x) (hr.ev i))
 ·rename_i t x i ho;exact pure_ (Instr.index t (a.eval x) (a.eval i)) (by simp[execOp,ho]) (Dy h (hr.ev x) (hr.ev i))
 ·rename_i x i ho;have hx:=hr.ev x
  cases hxv:ev O x<;>rw[hxv]at h hx<;>try exact h.elim
  rename_i l;simp only at h
  cases hl:l[i]? with
  | none=>rw[hl]at h;exact h.elim
  | some z =>
   rw[hl]at h;simp only[bs]at hx;obtain⟨vs,hx,hrl⟩:=hx;obtain⟨v,hv,hz⟩:=rT l vs hrl i z hl;exact fL (v:=v) (by simp[execOp,ho,Instr.extract,hx,hv]) (hn _ _ w S h hz hr.st (cw.refl _ _))
 ·rename_i c ho;unfold rL at h;split at h
  ·rename_i f hf;have hfv:=hr.ev f
   cases hxv:ev O f<;>rw[hxv]at h hfv<;>try exact h.elim
   ·rename_i g l;simp only[bs]at hfv;obtain⟨vs,hfe,hrl⟩:=hfv;obtain⟨hg,hsp⟩:=h;have hrun:(execOp a.eval o).run aj w=.ok (.enter g (c.args.map a.eval++vs.toArray)) w:=by
     simp[execOp,ho,resolve,hf,Deferred.ofValue,hfe,invoke,Hm hg]
    unfold Oper.wp;rw[hrun];have hargs:(c.args.map a.eval++vs.toArray)=(c.args.toList.map a.eval++vs).toArray:=by apply fV;simp
    rw[hargs];refine(hsp w _ hr.st (mH _ _ _ _ (nN hr _) hrl)).mono ?_;rintro e w' ⟨v,r,S',rfl,h1,h2,h3,h4⟩;exact hn r v w' S' h1 h2 h3 h4
   ·rename_i g l;simp only[bs]at hfv;obtain⟨vs,hfe,hrl⟩:=hfv;obtain⟨hg,hsp⟩:=h;have hrun:(execOp a.eval o).run aj w=.ok (.enter g (vs.toArray++c.args.map a.eval)) w:=by
     simp[execOp,ho,resolve,hf,Deferred.ofValue,hfe,invoke,Hm hg]
    unfold Oper.wp;rw[hrun];have hargs:(vs.toArray++c.args.map a.eval)=(vs++c.args.toList.map a.eval).toArray:=by apply fV;simp
    rw[hargs];refine(hsp w _ hr.st (mH _ _ _ _ hrl (nN hr _))).mono ?_;rintro e w' ⟨v,r,S',rfl,h1,h2,h3,h4⟩;exact hn r v w' S' h1 h2 h3 h4
  ·rename_i hc;split at h
   ·rename_i x t hx ht;have hxa:c.args=#[x]:=by apply fV;simpa using hx
    have hta:c.argTypes=#[t]:=by apply fV;simpa using ht
    exact pure_ (Builtin.len_ #[t] o.type #[a.eval x]) (by simp[execOp,ho,resolve,hc,invoke,builtin,hxa,hta]) (wC h (hr.ev x))
   ·exact h.elim
  ·rename_i hc;split at h
   ·rename_i x y hx;have hxa:c.args=#[x,y]:=by apply fV;simpa using hx
    exact pure_ (Builtin.max_ c.argTypes o.type #[a.eval x,a.eval y]) (by simp[execOp,ho,resolve,hc,invoke,builtin,hxa]) (Dx h (hr.ev x) (hr.ev y) _ _)
   ·exact h.elim
  ·rename_i hc;split at h
   ·rename_i s x t t' hx ht;have hxa:c.args=#[s,x]:=by apply fV;simpa using hx
    have hta:c.argTypes=#[t,t']:=by apply fV;simpa using ht
    split at h
    ·rename_i h3;subst h3;exact goes_ (Builtin.append_ #[t,3] o.type #[a.eval s,a.eval x]) (by simp[execOp,ho,resolve,hc,invoke,builtin,hxa,hta]) (wF h hr.st (hr.ev s) (hr.ev x))
    ·exact goes_ (Builtin.append_ #[t,t'] o.type #[a.eval s,a.eval x]) (by simp[execOp,ho,resolve,hc,invoke,builtin,hxa,hta]) (xK h hr.st (hr.ev s) (hr.ev x))
   ·exact h.elim
  ·rename_i hc;split at h
   ·rename_i s x t t' hx ht;have hxa:c.args=#[s,x]:=by apply fV;simpa using hx
    have hta:c.argTypes=#[t,t']:=by apply fV;simpa using ht
    exact goes_ (Builtin.copy_ #[t,t'] o.type #[a.eval s,a.eval x]) (by simp[execOp,ho,resolve,hc,invoke,builtin,hxa,hta]) (Cd h hr.st (hr.ev s) (hr.ev x))
   ·exact h.elim
  ·exact h.elim
 ·exact h.elim
def AM(ops:Array Oper)(O:Tm)(j:Nat):AV:=match (ops[j]?).bind (·.dst)with
 | some d=>O d
 | ac=>.any
def tR(ops:Array Oper):List Oper->Tm->St->(Tm->St->Prop)->Prop
 | [],O,S,K=>K O S
 | o::l,O,S,K=>(match o.guard with
  | ac=>wB o O S (fun z S'=>tR ops l (O.put o.dst z) S' K)
  | some (j,want)=>(match AM ops O j with
   | .bool b=>(b=want->wB o O S (fun z S'=>tR ops l (O.put o.dst z) S' K))/\(b=!want->tR ops l (O.put o.dst .any) S K)
   | _=>False))
def qk(N:Nat)(l:List Oper):Bool:=l.all fun o=>match o.dst with
 | some d=>decide (d<N)
 | ac=>true
theorem Dd{N:Nat}{o:Oper}{l:List Oper}(h:qk N (o::l)=true):(∀k,o.dst=some k->k<N)/\qk N l=true:=by
 simp only[qk,List.all_cons,aA]at h;refine⟨fun k hk=>?_,h.2⟩;have h1:=h.1;rw[hk]at h1;simpa using h1
theorem xS{ops:Array Oper}{O:Tm}{S:St}{N:Nat}{a:Act}{w:World}(hr:RT O S N a w){j:Nat}{b:Bool}(h:AM ops O j=.bool b):yielded ops a.tmps j=some b:=by
 unfold AM at h
 cases hd:(ops[j]?).bind (·.dst)with
 | none=>rw[hd]at h;cases h
 | some d =>
  rw[hd]at h;have h1:=hr.tm d;simp only at h;rw[h]at h1;simp only[bs]at h1;unfold yielded;rw[hd];simp only[da]
  cases ht:a.tmps[d]? with
  | none=>simp[aJ,ht,undef]at h1
  | some v =>
   have:v=.bool b:=by simpa [aJ,ht]using h1
   subst this;rfl
theorem sS{ops:Array Oper}{N:Nat}{Q:Exit->Act->World->Prop}{K:Tm->St->Prop}:∀(l:List Oper) {O:Tm} {S:St} {a:Act} {w:World},tR ops l O S K->RT O S N a w->qk N l=true ->
  (∀O' S' a' w',K O' S'->RT O' S' N a' w'->cw S.dom S'.dom w w'->Q .normal a' w')->wpList aj ops Q l a w
 | [],O,S,a,w,h,hr,_,hq=>hq O S a w h hr (cw.refl _ _)
 | o::l,O,S,a,w,h,hr,hd,hq=>by
  obtain⟨hd1,hd2⟩:=Dd hd;have run:wB o O S (fun z S'=>tR ops l (O.put o.dst z) S' K)->o.wp aj a w (wpList aj ops Q l) Q:=fun h1 =>
   kU h1 hr (fun z v w' S' hz hv hs hg=>sS l hz (hr.put hg hs hd1 hv) hd2 (fun O' S'' a' w'' k1 k2 k3=>hq O' S'' a' w'' k1 k2 (hg.trans k3)))
  unfold tR at h;unfold wpList
  cases hgd:o.guard with
  | none =>
   rw[hgd]at h;rw[if_pos (by simp[eB,hgd])]
   exact bQ (run h)
  | some p =>
   obtain⟨j,want⟩:=p;rw[hgd]at h;simp only at h
   cases hy:AM ops O j<;>rw[hy]at h<;>try exact h.elim
   rename_i b;have hyv:=xS hr hy;by_cases hb:b=want
   ·rw[if_pos (by simp[eB,hgd,hyv,hb])]
    exact bQ (run (h.1 hb))
   ·rw[if_neg (by simp[eB,hgd,hyv,hb])]
    have hb2:b=!want:=by cases b<;>cases want<;>simp_all
    exact sS l (h.2 hb2) (hr.put (cw.refl _ _) hr.st hd1 (by simp[bs])) hd2 hq
theorem pV{o:Oper}{O O':Tm}{S:St}{K:AV->St->Prop}(he:∀x,x∈o.op.operands.toList->ev O x=ev O' x)(h:wB o O S K):wB o O' S K:=by
 have hm1:∀l:List Operand,(∀x∈l,ev O x=ev O' x)->l.map (ev O)=l.map (ev O'):=fun l hl=>oI hl;unfold wB at h ⊢;split at h
 ·rename_i x ho;rw[ho]at he;simp only[Op.operands]at he;rw[<-he x sm];exact h
 ·rename_i x ho;rw[ho]at he;simp only[Op.operands]at he;rw[<-he x sm];exact h
 ·rename_i c x y ho;rw[ho]at he;simp only[Op.operands]at he;rw[<-he c sm,<-he x sm,<-he y sm];exact h
 ·rename_i t ho;exact h
 ·rename_i t x ho;rw[ho]at he;simp only[Op.operands]at he;rw[<-he x sm];exact h
 ·rename_i t ps ho;rw[ho]at he;simp only[Op.operands]at he;have:(ps.toList.map fun p=>(p.1,ev O p.2))=ps.toList.map fun p=>(p.1,ev O' p.2):=oI fun p hp=>by rw[he p.2 (by simp;exact⟨p.1,by simpa using hp⟩)]
  rw[<-this];exact h
 ·rename_i t n ps ho;rw[ho]at he;simp only[Op.operands]at he;have:(ps.toList.map fun p=>(p.1,ev O p.2))=ps.toList.map fun p=>(p.1,ev O' p.2):=oI fun p hp=>by rw[he p.2 (by simp;exact⟨p.1,by simpa using hp⟩)]
  rw[<-this];exact h
 ·rename_i t x ho;rw[ho]at he;simp only[Op.operands]at he;rw[<-he x sm];exact h
 ·rename_i t x y ho;rw[ho]at he;simp only[Op.operands]at he;rw[<-he x sm,<-he y sm];exact h
 ·rename_i x ho;rw[ho]at he;simp only[Op.operands]at he;rw[<-he x sm];exact h
 ·rename_i op t x y _ ho;rw[ho]at he;simp only[Op.operands]at he;rw[<-he x sm,<-he y sm];exact h
 ·rename_i op t x ho;rw[ho]at he;simp only[Op.operands]at he;rw[<-he x sm];exact h
 ·rename_i s d x ho;rw[ho]at he;simp only[Op.operands]at he;rw[<-he x sm];exact h
 ·rename_i f fi cs ho;rw[ho]at he;simp only[Op.operands]at he;rw[<-hm1 cs.toList (fun x hx=>he x (by simp;exact bH (by simpa using hx))),<-hm1 fi.toList (fun x hx=>he x (by simp;exact bQ (by simpa using hx)))];exact h
 ·rename_i t x y ho;rw[ho]at he;simp only[Op.operands]at he;rw[<-he x sm,<-he y sm];exact h
 ·rename_i t x lo hi mx ho;rw[ho]at he;simp only[Op.operands]at he;have ho2:∀y:Option Operand,(∀z,y=some z->ev O z=ev O' z)->y.map (ev O)=y.map (ev O'):=fun y hy=>by cases y<;>simp[hy]
  rw[<-he x sm,<-ho2 lo (fun z hz=>he z (by subst hz;simp)),<-ho2 hi (fun z hz=>he z (by subst hz;simp)),<-ho2 mx (fun z hz=>he z (by subst hz;simp))];exact h
 ·rename_i t x f ho;rw[ho]at he;simp only[Op.operands]at he;rw[<-he x sm];exact h
 ·rename_i t x i ho;rw[ho]at he;simp only[Op.operands]at he;rw[<-he x sm,<-he i sm];exact h
 ·rename_i t x i ho;rw[ho]at he;simp only[Op.operands]at he;rw[<-he x sm,<-he i sm];exact h
 ·rename_i x i ho;rw[ho]at he;simp only[Op.operands]at he;rw[<-he x sm];exact h
 ·rename_i c ho;rw[ho]at he;simp only[Op.operands,Call.operands]at he;have ha:∀x∈c.args.toList,ev O x=ev O' x:=fun x hx=>he x (by simp;exact bH (by simpa using hx))
  unfold rL at h ⊢;split at h
  ·rename_i f hf;rw[hf]at he;simp only at he;rw[<-he f sm,<-hm1 _ ha];exact h
  ·rename_i hc;split at h
   ·rename_i x t hx ht;rw[<-ha x (by rw[hx];simp)];exact h
   ·exact h.elim
  ·rename_i hc;split at h
   ·rename_i x y hx;rw[<-ha x (by rw[hx];simp),<-ha y (by rw[hx];simp)];exact h
   ·exact h.elim
  ·rename_i hc;split at h
   ·rename_i s x t t' hx ht;rw[<-ha x (by rw[hx];simp),<-ha s (by rw[hx];simp)];exact h
   ·exact h.elim
  ·rename_i hc;split at h
   ·rename_i s x t t' hx ht;rw[<-ha x (by rw[hx];simp),<-ha s (by rw[hx];simp)];exact h
   ·exact h.elim
  ·exact h.elim
 ·exact h.elim
def kT:TypeId->Option dH
 | 50=>some ⟨50,2,1,fun _=>.big 0⟩
 | 52=>some ⟨52,1,1,fun _=>.nil⟩
 | 167=>some ⟨167,2,2,fun _=>.big 0⟩
 | 218=>some ⟨218,1,2,fun j=>if j=0 then .nil else .int .i64 0⟩
 | _=>ac
theorem yN{t:TypeId}{X:dH}(h:kT t=some X):∃zc:Array Value,X.ty=t/\(∀w,(Instr.alloc t true (.tuple #[])).run aj w=.ok (.pointer (some ⟨w.heap.size,0,ac⟩)) (w.alloc (.cells zc t))) /\
  X.es*X.n<=zc.size/\(∀w M j,j<X.n->∃u,reads zc (X.es*j) X.es u/\bs w M (X.g j) u)/\∀(k:Nat) (y:Value),zc[k]? = some y->kz y:=by
 have key:∀(z':Value) (s b:Nat),lh aj t=some (z',s,b)->∃i,aj.info? t=some i/\i.zero=some z':=by
  intro z' s b hc;unfold lh at hc
  cases hi:aj.info? t with
  | none=>rw[hi]at hc;simp at hc
  | some i =>
   rw[hi]at hc;simp only[da,cr,Prod.mk.injEq]at hc;obtain⟨z2,h1,h2,h3,h4⟩:=hc;exact⟨i,rfl,by rw[h1,h2]⟩
 have fin:∀(l:List AV) (vs:List Value) (z:Value) (s b:Nat),lh aj t=some (z,s,b)->z.cells=(vs.flatMap (fun u=>u.cells.toList)).toArray->(∀w M,bq w M l vs)->(∀y∈l,dI X.es y)->X.ty=t->X.n=l.length->(∀j,j<l.length->X.g j=l.getD j .any) ->
   ∃zc:Array Value,X.ty=t/\(∀w,(Instr.alloc t true (.tuple #[])).run aj w=.ok (.pointer (some ⟨w.heap.size,0,ac⟩)) (w.alloc (.cells zc t))) /\
   X.es*X.n<=zc.size/\(∀w M j,j<X.n->∃u,reads zc (X.es*j) X.es u/\bs w M (X.g j) u)/\∀(k:Nat) (y:Value),zc[k]? = some y->kz y:=by
  intro l vs z s b hz hv hr hst ht hn hg;obtain⟨i,hi,hiz⟩:=key z s b hz;refine⟨z.cells,ht,fun w=>yo hi hiz w,?_,fun w M j hj=>?_,fun k y hy=>?_⟩
  ·obtain⟨_,l2,_,_⟩:=gD l vs (hr default (fun _=>False)) hst;rw[hv,bX,l2,hn];exact ah _
  ·obtain⟨_,_,_,l4⟩:=gD l vs (hr w M) hst;rw[hn]at hj;obtain⟨u,h1,h2⟩:=l4 j hj;refine⟨u,?_,by rw[hg j hj];exact h1⟩
   have:=h2 z.cells 0 (fun q _=>by rw[hv];simp)
   simpa using this
  ·obtain⟨_,_,l3,_⟩:=gD l vs (hr default (fun _=>False)) hst;rw[hv,fG]at hy;exact(l3 y (cC hy)).2
 have zb:∀w M,bs w M (.big 0) (.agg #[.bool false,.slice ac 0 0]):=fun w M=>by simp only[bs];exact d7.zero w
 unfold kT at h;split at h
 ·cases h
  exact fin [.big 0] [.agg #[.bool false,.slice ac 0 0]] (.agg #[.bool false,.slice ac 0 0]) 2 32 kr rfl (fun w M=>by simp only[bq];exact⟨zb w M,trivial⟩) (fun y hy=>by simp at hy;subst hy;simp[dI]) rfl rfl (fun j hj=>by simp at hj;subst hj;rfl)
 ·cases h
  exact fin [.nil] [.slice ac 0 0] (.slice ac 0 0) 1 24 kr rfl (fun w M=>by simp[bq,bs]) (fun y hy=>by simp at hy;subst hy;simp[dI]) rfl rfl (fun j hj=>by simp at hj;subst hj;rfl)
 ·cases h
  exact fin (bR 2 (.big 0)) (bR 2 (.agg #[.bool false,.slice ac 0 0])) (.agg #[.bool false,.slice ac 0 0,.bool false,.slice ac 0 0]) 4 64 kr rfl (fun w M=>jh (zb w M) 2) (fun y hy=>by rw[gC hy];simp[dI]) rfl rfl
   (fun j hj=>(vT (by rw[mI]at hj;exact hj) _ _).symm)
 ·cases h
  exact fin [.nil,.int .i64 0] [.slice ac 0 0,.int .i64 0] (.agg #[.slice ac 0 0,.int .i64 0]) 2 32 kr rfl (fun w M=>by simp[bq,bs]) (fun y hy=>by simp at hy;rcases hy with rfl|rfl<;>simp[dI]) rfl rfl
   (fun j hj=>by match j with
    | 0=>rfl
    | 1=>rfl
    | j+2=>exact absurd hj (by simp only[cD,jG];omega))
 ·cases h
mutual
def oG:AV->Bool
 | .int ..=>true
 | .bool _=>true
 | .big _=>true
 | .nil=>true
 | .sl ..=>true
 | .ptr ..=>true
 | .mag _=>true
 | .fp ..=>true
 | .bset _=>true
 | .any=>true
 | .nfn=>true
 | .mfn _ l=>xv l
 | .tup l=>xv l
 | .agg l=>xv l
 | .fn _ l=>xv l
 | .lst ..=>false
 | .pat ..=>false
def xv:List AV->Bool
 | []=>true
 | x::l=>oG x&&xv l
end
mutual
theorem oa{w:World}{M M':Nat->Prop}:∀{x:AV} {v:Value},oG x=true->bs w M x v->bs w M' x v
 | .int ..,v,_,hr=>by simpa [bs]using hr
 | .bool _,v,_,hr=>by simpa [bs]using hr
 | .big _,v,_,hr=>by simpa [bs]using hr
 | .nil,v,_,hr=>by simpa [bs]using hr
 | .sl ..,v,_,hr=>by simpa [bs]using hr
 | .ptr ..,v,_,hr=>by simpa [bs]using hr
 | .mag _,v,_,hr=>by simpa [bs]using hr
 | .fp ..,v,_,hr=>by simpa [bs]using hr
 | .bset _,v,_,hr=>by simpa [bs]using hr
 | .any,v,_,hr=>by simp[bs]
 | .nfn,v,_,hr=>by simpa [bs]using hr
 | .mfn f l,v,h,hr=>by
  simp only[oG]at h;simp only[bs]at hr ⊢;obtain⟨vs,h1,h2⟩:=hr;exact⟨vs,h1,pa h h2⟩
 | .tup l,v,h,hr=>by
  simp only[oG]at h;simp only[bs]at hr ⊢;obtain⟨vs,h1,h2⟩:=hr;exact⟨vs,h1,pa h h2⟩
 | .agg l,v,h,hr=>by
  simp only[oG]at h;simp only[bs]at hr ⊢;obtain⟨vs,h1,h2⟩:=hr;exact⟨vs,h1,pa h h2⟩
 | .fn f l,v,h,hr=>by
  simp only[oG]at h;simp only[bs]at hr ⊢;obtain⟨vs,h1,h2⟩:=hr;exact⟨vs,h1,pa h h2⟩
 | .lst ..,v,h,_=>by simp[oG]at h
 | .pat ..,v,h,_=>by simp[oG]at h
theorem pa{w:World}{M M':Nat->Prop}:∀{l:List AV} {vs:List Value},xv l=true->bq w M l vs->bq w M' l vs
 | [],[],_,_=>by simp[bq]
 | x::l,v::vs,h,h2=>by
  simp only[xv,aA]at h;simp only[bq]at h2 ⊢;exact⟨oa h.1 h2.1,pa h.2 h2.2⟩
 | [],_::_,_,h2=>by simp[bq]at h2
 | _::_,[],_,h2=>by simp[bq]at h2
end
def px:Nat->Prop:=fun _=>False
def Bt:Op->Bool
 | .move _=>true
 | .assign _=>true
 | .pick ..=>true
 | .build ..=>true
 | .load ..=>true
 | .nilCheck _=>true
 | .binOp ..=>true
 | .unOp ..=>true
 | .convert ..=>true
 | .makeFunc ..=>true
 | .slice ..=>true
 | .fieldAddr ..=>true
 | .indexAddr ..=>true
 | .extract ..=>true
 | .call { callee:=.builtin .len,.. }=>true
 | _=>false
def rU(f:Nat)(args:List AV)(S:St)(z:AV):Prop :=
 ∀(w:World) (vs:List Value),dN w S->bq w S.dom args vs->Calls aj f vs.toArray w (fun e w'=>∃v,e=.returned v/\bs w' S.dom z v/\cw px px w w')
def xa(o:Oper)(O:Tm)(S:St)(z:AV):Prop:=(Bt o.op=true/\wB o O S (fun z' S'=>z'=z/\S'=S)) ∨
 (match o.op with
 | .call c=>(match c.callee with
  | .value f=>(match ev O f with
   | .fn f l=>((11<=f/\f<270)/\f≠252/\f≠253)/\rU f (c.args.toList.map (ev O)++l) S z
   | _=>False)
  | _=>False)
 | .buildSlice t n ps=>dZ t n (ps.toList.map fun p=>(p.1,ev O p.2)) z
 | _=>False)
theorem Ij{o:Oper}(hq:Bt o.op=true){O:Tm}{S:St}{K:AV->St->Prop}(h:wB o O S K){N:Nat}{a:Act}{w:World}(hr:RT O S N a w) :
  ∃z v,K z S/\bs w S.dom z v/\(execOp a.eval o).run aj w=.ok (.value v) w:=by
 have pure_:∀(s:Sem Value),(execOp a.eval o=do let x <-s;pure (.value x))->(∃z u,K z S/\bs w S.dom z u/\s.run aj w=.ok u w)->∃z v,K z S/\bs w S.dom z v/\(execOp a.eval o).run aj w=.ok (.value v) w:=by
  intro s he ⟨z,u,h1,h2,h3⟩;exact⟨z,u,h1,h2,by rw[he];simp[h3]⟩
 unfold wB at h;split at h
 ·rename_i x ho;exact⟨_,_,h,hr.ev x,by simp[execOp,ho]⟩
 ·rename_i x ho;exact⟨_,_,h,hr.ev x,by simp[execOp,ho]⟩
 ·rename_i c x y ho;have hc:=hr.ev c
  cases hcv:ev O c<;>rw[hcv]at h hc<;>try exact h.elim
  rename_i t;simp only[bs]at hc;refine⟨_,if t then a.eval x else a.eval y,h,?_,by simp[execOp,ho,hc,asBool]⟩
  cases t
  ·exact hr.ev y
  ·exact hr.ev x
 ·rename_i t ho;rw[ho]at hq;simp[Bt]at hq
 ·rename_i t x ho;rw[ho]at hq;simp[Bt]at hq
 ·rename_i t ps ho;obtain⟨z,u,h1,h2,h3⟩:=rM h (pw hr ps.toList);exact⟨z,u,h1,h2,by rw[vV ho,h3];rfl⟩
 ·rename_i t n ps ho;rw[ho]at hq;simp[Bt]at hq
 ·rename_i t x ho;exact pure_ (Instr.loadAt t (a.eval x)) (by simp[execOp,ho]) (pq h hr.st (hr.ev x))
 ·rename_i t x y ho;rw[ho]at hq;simp[Bt]at hq
 ·rename_i x ho;have hx:=hr.ev x
  cases hxv:ev O x<;>rw[hxv]at h hx<;>try exact h.elim
  ·have hx':=hx;simp only[bs]at hx;exact⟨_,a.eval x,h,hx',by simp[execOp,ho,hx]⟩
  ·have hx':=hx;simp only[bs]at hx;obtain⟨b,off,u,hx,_⟩:=hx;exact⟨_,a.eval x,h,hx',by simp[execOp,ho,hx]⟩
 ·rename_i op t x y _ ho;have:=wE (ty:=t) h (hr.ev x) (hr.ev y) x y;exact pure_ (do eqGuard op t x y (a.eval x) (a.eval y);binOp op t (a.eval x) (a.eval y)) (by simp[execOp,ho]) this
 ·rename_i op t x ho;exact pure_ (Op.unary op (a.eval x)) (by simp[execOp,ho]) (yP h (hr.ev x))
 ·rename_i s d x ho;exact pure_ (convert s d (a.eval x)) (by simp[execOp,ho]) (tH h (hr.ev x))
 ·rename_i f fi cs ho;obtain⟨z,h1,h2⟩:=rH h hr;exact⟨_,.func (.func f) (fi.map a.eval) (cs.map a.eval),h1,h2,by simp[execOp,ho,Instr.makeFunc]⟩
 ·rename_i t x y ho;rw[ho]at hq;simp[Bt]at hq
 ·rename_i t x lo hi mx ho;exact pure_ (Instr.sliceAt t (a.eval x) (lo.map a.eval) (hi.map a.eval) (mx.map a.eval)) (by simp[execOp,ho]) (rG h (hr.ev x) (nL hr lo) (nL hr hi) (nL hr mx))
 ·rename_i t x f ho;exact pure_ (Instr.fieldAt t (a.eval x) f) (by simp[execOp,ho]) (rJ h (hr.ev x))
 ·rename_i t x i ho;exact pure_ (Instr.indexAt t (a.eval x) (a.eval i)) (by simp[execOp,ho]) (rI h (hr.ev x) (hr.ev i))
 ·rename_i t x i ho;rw[ho]at hq;simp[Bt]at hq
 ·rename_i x i ho;have hx:=hr.ev x
  cases hxv:ev O x<;>rw[hxv]at h hx<;>try exact h.elim
  rename_i l;simp only at h
  cases hl:l[i]? with
  | none=>rw[hl]at h;exact h.elim
  | some z =>
   rw[hl]at h;simp only[bs]at hx;obtain⟨vs,hx,hrl⟩:=hx;obtain⟨v,hv,hz⟩:=rT l vs hrl i z hl;exact⟨_,v,h,hz,by simp[execOp,ho,Instr.extract,hx,hv]⟩
 ·rename_i c ho;unfold rL at h;split at h
  ·rename_i f hf;obtain⟨ce,ar,at_⟩:=c;simp only at hf;subst hf;rw[ho]at hq;simp[Bt]at hq
  ·rename_i hc;split at h
   ·rename_i x t hx ht;have hxa:c.args=#[x]:=by apply fV;simpa using hx
    have hta:c.argTypes=#[t]:=by apply fV;simpa using ht
    exact pure_ (Builtin.len_ #[t] o.type #[a.eval x]) (by simp[execOp,ho,resolve,hc,invoke,builtin,hxa,hta]) (wC h (hr.ev x))
   ·exact h.elim
  ·rename_i hf;obtain⟨ce,ar,at_⟩:=c;simp only at hf;subst hf;rw[ho]at hq;simp[Bt]at hq
  ·rename_i hf;obtain⟨ce,ar,at_⟩:=c;simp only at hf;subst hf;rw[ho]at hq;simp[Bt]at hq
  ·rename_i hf;obtain⟨ce,ar,at_⟩:=c;simp only at hf;subst hf;rw[ho]at hq;simp[Bt]at hq
  ·exact h.elim
 ·exact h.elim
theorem lY{o:Oper}{O:Tm}{S:St}{z:AV}(h:xa o O S z){N:Nat}{a:Act}{w:World}(hr:RT O S N a w){next:Act->World->Prop}{Q:Exit->Act->World->Prop}
  (hn:∀v w',bs w' S.dom z v->cw px px w w'->next (a.put o.dst v) w'):o.wp aj a w next Q:=by
 rcases h with⟨hq,h⟩|h
 ·obtain⟨z',v,⟨rfl,_⟩,h2,h3⟩:=Ij hq h hr;exact fL h3 (hn v w h2 (cw.refl _ _))
 ·split at h
  ·rename_i c ho;split at h
   ·rename_i f hf;have hfv:=hr.ev f
    cases hxv:ev O f<;>rw[hxv]at h hfv<;>try exact h.elim
    rename_i g l;simp only[bs]at hfv;obtain⟨vs,hfe,hrl⟩:=hfv;obtain⟨hg,hsp⟩:=h;have hrun:(execOp a.eval o).run aj w=.ok (.enter g (c.args.map a.eval++vs.toArray)) w:=by
     simp[execOp,ho,resolve,hf,Deferred.ofValue,hfe,invoke,Hm hg]
    unfold Oper.wp;rw[hrun];have hargs:(c.args.map a.eval++vs.toArray)=(c.args.toList.map a.eval++vs).toArray:=by apply fV;simp
    rw[hargs];refine(hsp w _ hr.st (mH _ _ _ _ (nN hr _) hrl)).mono ?_;rintro e w' ⟨v,rfl,h1,h2⟩;exact hn v w' h1 h2
   ·exact h.elim
  ·rename_i t n ps ho;obtain⟨v,w',h1,h2,h3⟩:=rf h hr.st (pw hr ps.toList);exact fL (by rw[oH ho,h1];rfl) (hn v w' h2 h3)
  ·exact h.elim
theorem kX{o:Oper}{O O':Tm}{S:St}{z:AV}(he:∀x,x∈o.op.operands.toList->ev O x=ev O' x)(h:xa o O S z):xa o O' S z:=by
 rcases h with⟨hq,h⟩|h
 ·exact bQ ⟨hq,pV he h⟩
 ·refine bH ?_;split at h
  ·rename_i c ho;rw[ho]at he;simp only[Op.operands,Call.operands]at he;split at h
   ·rename_i f hf;rw[hf]at he;simp only at he;have ha:c.args.toList.map (ev O)=c.args.toList.map (ev O'):=oI fun x hx=>he x (by simp;exact bH (by simpa using hx))
    rw[<-he f sm,<-ha];exact h
   ·exact h.elim
  ·rename_i t n ps ho;rw[ho]at he;have ha:(ps.toList.map fun p=>(p.1,ev O p.2))=ps.toList.map fun p=>(p.1,ev O' p.2):=oI fun p hp=>by
    rw[he p.2 (by simp only[Op.operands];simp;exact⟨p.1,by simpa using hp⟩)]
   rw[<-ha];exact h
  ·exact h.elim
def Ah:List Oper->Tm->St->List (Nat×dH)->(Tm->List (Nat×dH)->Prop)->Prop
 | [],O,_,pend,K=>K O pend
 | o::l,O,S,pend,K=>(match o.op,o.dst with
  | .alloc t,some d=>(match kT t with
   | some X=>Ah l (O.put (some d) .any) S (pend++[(d,X)]) K
   | ac=>False)
  | _,_=>∃z,xa o O S z/\Ah l (O.put o.dst z) S pend K)
def mh:List (Nat×dH)->Tm->St->(Tm->St->Prop)->Prop
 | [],O,S,K=>K O S
 | (d,X)::r,O,S,K=>∀b,S b=ac->mh r (O.put (some d) (.ptr X.es b 0)) (S.upd b X) K
def rm(ds:List Nat)(O:Tm):Tm:=fun t=>if ds.contains t&&!oG (O t)then .any else O t
def lf(l:List Oper):List Nat:=l.filterMap (·.dst)
def jY(o:Oper):List Nat:=o.op.operands.toList.filterMap fun
 | .tmp t=>some t
 | _=>ac
def aft(o:Oper):List Nat:=(o.after.toList.filter (Region.binds .any)).map (·.on)
def oF(ops:Array Oper):Nat->Nat->Nat->Bool
 | 0,_,_=>false
 | f+1,j,i=>(match ops[i]? with
  | some o=>(aft o).contains j||(aft o).any (fun k=>Nat.ble j k&&oF ops f j k)
  | ac=>false)
def vZ(ops:Array Oper)(q:Nat):Bool :=
 let l:=ops.toList
 l.all (fun o=>o.guard.isNone) &&
 l.zipIdx.all (fun p=>(aft p.1).all (fun k=>decide (k<p.2))) &&
 (l.take q).zipIdx.all (fun p=>(l.take q).zipIdx.all (fun r=>match r.1.dst with
  | some t=>!(jY p.1).contains t||(decide (r.2<p.2)&&(aft p.1).contains r.2)
  | ac=>true)) &&
 (l.take q).zipIdx.all (fun p=>(l.take q).zipIdx.all (fun r=>decide (p.2=r.2)||p.1.dst.isNone||p.1.dst != r.1.dst)) &&
 (l.zipIdx.drop q).all (fun p=>(cn p.2).all (fun j=>(aft p.1).contains j||oF ops 12 j p.2)) &&
 decide (q<=l.length)
def awD(ops:Array Oper)(O:Tm)(S:St)(K:Tm->St->Prop):Prop:=∃q,vZ ops q=true /\
 Ah (ops.toList.take q) O S [] (fun O' pend=>if pend.isEmpty then tR ops (ops.toList.drop q) O' S K else
  mh pend (rm (lf (ops.toList.take q)) O') S (fun O S=>tR ops (ops.toList.drop q) O S K))
theorem nI:∀(l:List Oper) (O:Tm) (S:St) (pend:List (Nat×dH)) (K:Tm->List (Nat×dH)->Prop),Ah l O S pend K ->
  ∃(Os:Nat->Tm) (al:Nat->Option dH),Os 0=O/\K (Os l.length) (pend++(cn l.length).filterMap (fun i=>(al i).bind fun X=>(l[i]?).bind fun o=>o.dst.map fun d=>(d,X))) /\
   ∀i o,l[i]? = some o->(∃t d X,o.op=.alloc t/\o.dst=some d/\kT t=some X/\al i=some X/\Os (i+1)=(Os i).put (some d) .any) ∨
    (al i=ac/\∃z,xa o (Os i) S z/\Os (i+1)=(Os i).put o.dst z)
 | [],O,S,pend,K,h=>⟨fun _=>O,fun _=>ac,rfl,by simpa [Ah]using h,fun i o ho=>by simp at ho⟩
 | o::l,O,S,pend,K,h=>by
  have glue:∀(x:Option dH) (O1:Tm) (pend1:List (Nat×dH)),(pend1=pend++(x.bind fun X=>o.dst.map fun d=>(d,X)).toList)->Ah l O1 S pend1 K ->
    ((∃t d X,o.op=.alloc t/\o.dst=some d/\kT t=some X/\x=some X/\O1=O.put (some d) .any)∨(x=ac/\∃z,xa o O S z/\O1=O.put o.dst z)) ->
    ∃(Os:Nat->Tm) (al:Nat->Option dH),Os 0=O/\K (Os (o::l).length) (pend++(cn (o::l).length).filterMap (fun i=>(al i).bind fun X=>((o::l)[i]?).bind fun o=>o.dst.map fun d=>(d,X))) /\
     ∀i o',(o::l)[i]? = some o'->(∃t d X,o'.op=.alloc t/\o'.dst=some d/\kT t=some X/\al i=some X/\Os (i+1)=(Os i).put (some d) .any) ∨
      (al i=ac/\∃z,xa o' (Os i) S z/\Os (i+1)=(Os i).put o'.dst z):=by
   intro x O1 pend1 hp h1 hx;obtain⟨Os,al,e0,hK,hi⟩:=nI l O1 S pend1 K h1;refine⟨fun i=>match i with|0=>O|i+1=>Os i,fun i=>match i with|0=>x|i+1=>al i,rfl,?_,fun i o' ho=>?_⟩
   ·simp only[cD];rw[hp]at hK;rw[List.range_succ_eq_map,List.filterMap_cons,List.filterMap_map];have e2:(fun i=>((al i).bind fun X=>(l[i]?).bind fun o=>o.dst.map fun d=>(d,X)))=((fun i=>(match i with|0=>x|i+1=>al i:Option dH).bind fun X=>((o::l)[i]?).bind fun o=>o.dst.map fun d=>(d,X))∘Nat.succ):=by
     funext i;simp
    rw[<-e2]
    cases hxx:(x.bind fun X=>o.dst.map fun d=>(d,X))with
    | none=>rw[hxx]at hK;simp only[Option.toList_none,List.append_nil]at hK;simp only[cN,da];rw[hxx];exact hK
    | some y=>rw[hxx]at hK;simp only[Option.toList_some,List.append_assoc,List.singleton_append]at hK;simp only[cN,da];rw[hxx];exact hK
   ·cases i with
    | zero =>
     simp at ho;subst ho;simp only[e0];exact hx
    | succ i =>
     simp only[bT]at ho;exact hi i o' ho
  unfold Ah at h;split at h
  ·rename_i t d hop hd
   cases hX:kT t with
   | none=>rw[hX]at h;exact h.elim
   | some X =>
    rw[hX]at h;exact glue (some X) _ _ (by rw[hd];rfl) h (bQ ⟨t,d,X,hop,hd,hX,rfl,rfl⟩)
  ·obtain⟨z,hz,h1⟩:=h;exact glue ac _ _ sm h1 (bH ⟨rfl,z,hz,rfl⟩)
end Go.Proofs.YtdobfmlmenaajaaGreatDoor
