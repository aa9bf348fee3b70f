/-
  Lemmas for NeighbourKeeps.
-/
import Derived.Test.YtdobfmlmenaajaaGreatDoorL11
import Derived.LoopN
import Derived.Scope
namespace Go.Proofs.YtdobfmlmenaajaaGreatDoor
open Go.RowKit Tryz
open _root_.Array renaming getD_eq_getD_getElem?→aD,replicate→jd
open _root_.Bool renaming and_eq_true→bL
open _root_.Classical renaming choose_spec→ef,choose→gR
open _root_.List renaming getD→cK,getElem?_cons_succ→cS,getElem?_cons_zero→dE
open _root_.Nat renaming le_refl→af,zero_add→aJ
open _root_.Option renaming none→ae
open _root_.Or renaming inr→aK,inl→bn
open Tryz renaming prog→ah
set_option maxHeartbeats 6400000
set_option maxRecDepth 4096
set_option linter.all false
variable{x z:AV}{c:Code}{fn:Func}{a za:Int}{args args':List AV}{b es f m n ty:Nat}{g g' h:Nat->AV}{r:Nat->Int}{A:Nat->Nat->Int}{K M:Nat->Prop}{p q:Prop}{S:St}{α:Type}{w:World}
inductive AX where
 | normal
 | ret
 | exit (id:Nat)
def AX.seq(k:Tm->St->Prop)(Q:AX->Tm->St->Prop):AX->Tm->St->Prop
 | .normal=>k
 | .ret=>Q .ret
 | .exit i=>Q (.exit i)
def AX.blk(id:Nat)(Q:AX->Tm->St->Prop):AX->Tm->St->Prop
 | .normal=>Q .normal
 | .ret=>Q .ret
 | .exit i=>if i=id then Q .normal else Q (.exit i)
def KT(ops:Array Oper)(O:Tm)(S:St)(K:Tm->St->Prop):Prop:=awD ops O S K∨awF ops O S K∨awG ops O S K∨awA ops O S K∨awI ops O S K
def aw:Code->(AX->Tm->St->Prop)->Tm->St->Prop
 | .skip,Q,O,S=>Q .normal O S
 | .region _ ops false,Q,O,S=>Bp ops ops.toList O S (Q .normal)
 | .region _ ops true,Q,O,S=>KT ops O S (Q .normal)
 | .seq x y,Q,O,S=>aw x (AX.seq (aw y Q) Q) O S
 | .cond c x y,Q,O,S=>(match ev O c with
  | .bool b=>(b=true->aw x Q O S)/\(b=false->aw y Q O S)
  | _=>False)
 | .block id c,Q,O,S=>aw c (AX.blk id Q) O S
 | .loop c,Q,O,S=>∃(I:Tm->St->Prop) (μ:Tm->St->Nat),I O S/\∀O S,I O S->aw c (AX.seq (fun O' S'=>I O' S'/\μ O' S' < μ O S) Q) O S
 | .exit id,Q,O,S=>Q (.exit id) O S
 | .ret,Q,O,S=>Q .ret O S
 | .scope c,Q,O,S=>aw c Q O S
 | .label _,Q,O,S=>Q .normal O S
 | _,_,_,_=>False
def jD(N:Nat):Code->Bool
 | .skip=>true
 | .region _ ops _=>ri N ops.toList
 | .seq x y=>jD N x&&jD N y
 | .cond _ x y=>jD N x&&jD N y
 | .block _ c=>jD N c
 | .loop c=>jD N c
 | .exit _=>true
 | .ret=>true
 | .scope c=>jD N c
 | .label _=>true
 | _=>false
def Post(Q:AX->Tm->St->Prop)(D:Nat->Prop)(N:Nat)(w0:World):Exit->Act->World->Prop
 | .normal,a,w=>∃O S,Q .normal O S/\RT O S N a w/\cG D S.dom w0 w
 | .ret,a,w=>∃O S,Q .ret O S/\RT O S N a w/\cG D S.dom w0 w
 | .exit i,a,w=>∃O S,Q (.exit i) O S/\RT O S N a w/\cG D S.dom w0 w
 | _,_,_=>False
theorem lX{N:Nat}:∀(c:Code) (Q:AX->Tm->St->Prop) (O:Tm) (S:St) (D:Nat->Prop) (k:World) (a:Act) (w:World),aw c Q O S->jD N c=true->RT O S N a w->cG D S.dom k w->c.wp ah (Post Q D N k) a w
 | .skip,Q,O,S,D,k,a,w,h,_,d,g=>wp_skip ⟨O,S,h,d,g⟩
 | .region id ops false,Q,O,S,D,k,a,w,h,j,d,g=>by
  refine wp_region_list (tZ ops.toList h d j (fun O' S' a' w' m o p=>⟨O',S',m,o,g.trans p⟩))
 | .region id ops true,Q,O,S,D,k,a,w,h,j,d,g =>
  h.elim (fun h=>Gw h d j (fun O' S' a' w' m o p=>⟨O',S',m,o,g.trans p⟩)) (fun h=>h.elim (fun h=>Gv h d j (fun O' S' a' w' m o p=>⟨O',S',m,o,g.trans p⟩)) (fun h=>h.elim (fun h=>Gu h d j (fun O' S' a' w' m o p=>⟨O',S',m,o,g.trans p⟩)) (fun h=>h.elim (fun h=>Gx h d j (fun O' S' a' w' m o p=>⟨O',S',m,o,g.trans p⟩)) (fun h=>Gt h d j (fun O' S' a' w' m o p=>⟨O',S',m,o,g.trans p⟩)))))
 | .seq x y,Q,O,S,D,k,a,w,h,j,d,g=>by
  simp only[jD,bL]at j;simp only[aw]at h;refine wp_seq (Code.wp_mono ?_ (lX x _ O S D k a w h j.1 d g));intro e a' w' f
  cases e with
  | normal=>obtain⟨O',S',m,o,p⟩:=f;exact lX y Q O' S' D k a' w' m j.2 o p
  | ret=>exact f
  | exit i=>exact f
  | goto l=>exact f.elim
  | panic ch=>exact f.elim
  | outgrown=>exact f.elim
 | .cond c x y,Q,O,S,D,k,a,w,h,j,d,g=>by
  simp only[jD,bL]at j;simp only[aw]at h;have q:=d.ev c
  cases r:ev O c<;>rw[r]at h q<;>try exact h.elim
  rename_i b;simp only[bB]at q
  cases b
  ·exact wp_cond_false q (lX y Q O S D k a w (h.2 rfl) j.2 d g)
  ·exact wp_cond_true q (lX x Q O S D k a w (h.1 rfl) j.1 d g)
 | .block id c,Q,O,S,D,k,a,w,h,j,d,g=>by
  simp only[jD]at j;simp only[aw]at h;refine wp_block (Code.wp_mono ?_ (lX c _ O S D k a w h j d g));intro e a' w' f
  cases e with
  | normal=>exact f
  | ret=>exact f
  | exit i =>
   obtain⟨O',S',m,o,p⟩:=f;simp only[AX.blk]at m;simp only[Exit.inBlock];split at m
   ·rename_i e;subst e;simp;exact⟨O',S',m,o,p⟩
   ·rename_i e;simp[e];exact⟨O',S',m,o,p⟩
  | goto l=>exact f.elim
  | panic ch=>exact f.elim
  | outgrown=>exact f.elim
 | .loop c,Q,O,S,D,k,a,w,h,j,d,g=>by
  simp only[jD]at j;simp only[aw]at h;obtain⟨I,μ,s,hround⟩:=h;have key:∀n O S a w,μ O S<n->I O S->RT O S N a w->cG D S.dom k w->Code.rounds ah c (Post Q D N k) n a w:=by
   intro n
   induction n with
   | zero=>intro O S a w m;omega
   | succ n ih =>
    intro O S a w m o p t;refine Code.wp_mono ?_ (lX c _ O S D k a w (hround O S o) j p t);intro e a' w' f
    cases e with
    | normal =>
     obtain⟨O',S',⟨u,A⟩,v,z⟩:=f;exact ih O' S' a' w' om u v z
    | ret=>exact f
    | exit i=>exact f
    | goto l=>exact f.elim
    | panic ch=>exact f.elim
    | outgrown=>exact f.elim
  exact wp_loop_rounds (μ O S+1) (key _ O S a w om s d g)
 | .exit id,Q,O,S,D,k,a,w,h,_,d,g=>wp_exit ⟨O,S,h,d,g⟩
 | .ret,Q,O,S,D,k,a,w,h,_,d,g=>wp_ret ⟨O,S,h,d,g⟩
 | .rangeFunc ..,_,_,_,_,_,_,_,h,_,_,_=>h.elim
 | .scope c,Q,O,S,D,k,a,w,h,j,d,g=>by
  simp only[jD]at j;simp only[aw]at h;refine wp_scope_straight (Code.wp_mono ?_ (lX c Q O S D k a w h j d g));intro e a' w' f
  cases e with
  | normal=>exact f
  | ret=>exact f
  | exit i=>exact f
  | goto l=>exact f.elim
  | panic ch=>exact f.elim
  | outgrown=>exact f.elim
 | .label _,Q,O,S,D,k,a,w,h,_,d,g=>wp_label ⟨O,S,h,d,g⟩
 | .goto _,_,_,_,_,_,_,_,h,_,_,_=>h.elim
 | .refuse _,_,_,_,_,_,_,_,h,_,_,_=>h.elim
def yT:List ResultVar->Tm->St->(List AV->Prop)->Prop
 | [],_,_,K=>K []
 | .tmp t::r,O,S,K=>yT r O S (fun l=>K (O t::l))
 | .cell p ty::r,O,S,K=>qn ty (O p) S (fun z=>yT r O S (fun l=>K (z::l)))
def wB:List AV->AV
 | [x]=>x
 | l=>.tup l
theorem AA{N:Nat}{O:Tm}{S:St}{a:Act}{w:World}(e:RT O S N a w):∀(rs:List ResultVar) (K:List AV->Prop),yT rs O S K ->
  ∃l vs,K l/\a6 w S.dom l vs/\vs.length=rs.length/\(rs.mapM (m:=Sem) fun
   | .tmp t=>pure (a.tmps.getD t undef)
   | .cell p t=>do loadVar t (<-asAddr (a.tmps.getD p undef))).run ah w=.ok vs w
 | [],K,h=>⟨[],[],h,by simp[a6],rfl,sm⟩
 | .tmp t::r,K,h=>by
  obtain⟨l,vs,g,i,j,k⟩:=AA e r _ h;exact⟨O t::l,a.tmps.getD t undef::vs,g,by simp only[a6];exact⟨e.tm t,i⟩,by simp[j],by simp only[List.mapM_cons,Sem.run_bind,Sem.run_pure,Result.andThen_ok,k]⟩
 | .cell p ty::r,K,h=>by
  obtain⟨z,v,o,q,d⟩:=qm h e.st (e.tm p);obtain⟨l,vs,g,i,j,k⟩:=AA e r _ o;have f:∃ad,a.tmps.getD p undef=.pointer (some ad):=by
   have c:=e.tm p;simp only[yT]at h
   cases n:O p<;>rw[n]at h c<;>simp only[qn]at h
   ·simp only[bB]at c;exact⟨_,c⟩
   ·simp only[bB]at c;obtain⟨b,off,u,c,_⟩:=c;exact⟨_,c⟩
   ·simp only[bB]at c;exact⟨_,c⟩
  obtain⟨ad,f⟩:=f;rw[f]at d;have s:(loadVar ty ad).run ah w=.ok v w:=by simpa [Instr.loadAt,Instr.sureAddr]using d
  have haddr:(asAddr (.pointer (some ad))).run ah w=.ok ad w:=by simp[asAddr]
  exact⟨z::l,v::vs,g,by simp only[a6];exact⟨q,i⟩,by simp[j],by simp only[List.mapM_cons,Sem.run_bind,Sem.run_pure,Result.andThen_ok,f,haddr,s,k]⟩
def Hd(args:List AV):Tm:=fun t=>args.getD t .any
theorem JC:∀(args:List AV) (vs:List Value) (k:Nat),a6 w M args vs->∀t,bB w M (Hd args t) ((vs.toArray++jd k undef).getD t undef):=by
 intro args vs k h t;have f:∀(j:Nat),(jd k undef).getD j undef=undef:=fun j=>by
  rw[aD,Array.getElem?_replicate];split<;>rfl
 rcases Nat.lt_or_ge t args.length with a|a
 ·have b:args[t]? = some (args[t]):=List.getElem?_eq_getElem a;obtain⟨v,c,d⟩:=tf args vs h t _ b;have e:t<vs.length:=(List.getElem?_eq_some_iff.1 c).1;have:(vs.toArray++jd k undef).getD t undef=v:=by
   rw[aD,Array.getElem?_append_left (by simpa using e)]
   simp[c]
  rw[this];simp only[Hd,cK,b,Option.getD_some];exact d
 ·have:Hd args t=.any:=by simp[Hd,cK,List.getElem?_eq_none a]
  rw[this];simp[bB]
theorem yi{w:World}{M:Nat->Prop}:∀(l:List AV) (vs:List Value),a6 w M l vs->vs.length=l.length
 | [],[],_=>rfl
 | _::l,_::vs,h=>by simp only[a6]at h;simp[yi l vs h.2]
 | [],_::_,h=>by simp[a6]at h
 | _::_,[],h=>by simp[a6]at h
def Et(rs:List ResultVar)(post:AV->St->Prop):AX->Tm->St->Prop
 | .normal,O,S=>yT rs O S (fun l=>post (wB l) S)
 | .ret,O,S=>yT rs O S (fun l=>post (wB l) S)
 | .exit _,_,_=>False
theorem ra(s:ah.funcs[f]? = some fn)(z:fn.body=some c){args:List AV}{S:St}{post:AV->St->Prop}(N:Nat)(E:fn.ntmps=N)(k:jD N c=true)(o:args.length<=N)
  (h:aw c (Et fn.results.toList post) (Hd args) S):cL f args S post:=by
 intro w vs A p;refine calls_of_wp s z ?_;have B:=yi _ _ p;have m:RT (Hd args) S N { tmps:=vs.toArray++jd (fn.ntmps-vs.toArray.size) undef,defers:=[] } w:=by
  refine⟨rfl,?_,fun t=>JC args vs _ p t,A⟩;simp;omega
 refine Code.wp_mono ?_ (lX c _ _ S S.dom w _ w h k m (cG.refl _ _));have fin:∀a w',(∃O S',yT fn.results.toList O S' (fun l=>post (wB l) S')/\RT O S' N a w'/\cG S.dom S'.dom w w')->a.defers=[]/\∃v,(results fn a.tmps).run ah w'=.ok v w'/\∃v' r S',Ending.returned v=.returned v'/\post r S'/\bB w' S'.dom r v'/\dX w' S'/\cG S.dom S'.dom w w':=by
  rintro a w' ⟨O,S',n,j,q⟩;obtain⟨l,us,C,b,F,D⟩:=AA j _ _ n;have g:=yi _ _ b;refine⟨j.defers,if h:us.toArray.size=1 then us.toArray[0]else .tuple us.toArray,?_,_,_,S',rfl,C,?_,j.st,q⟩
  ·simp only[results];rw[Array.mapM_eq_mapM_toList];simp only[Sem.run_bind,Sem.run_map,Sem.run_pure];exact(congrArg (fun r:Result (List Value)=>((r.andThen fun a w'=>Result.ok a.toArray w').andThen fun a w'=>Result.ok (if h:a.size=1 then a[0]else Value.tuple a) w')) D).trans rfl
  ·match l,us,b,g with
   | [x],[u],b,_=>simp only[a6]at b;simpa [wB]using b.1
   | [],[],b,g =>
    simp only[wB,bB];exact⟨[],sm,by simp[a6]⟩
   | x::y::l,u::u'::us,b,_ =>
    simp only[wB,bB];exact⟨u::u'::us,sm,b⟩
 intro e a w' d
 cases e with
 | normal=>exact fin a w' d
 | ret=>exact fin a w' d
 | exit i=>obtain⟨O,S',n,j,q⟩:=d;exact n.elim
 | goto l=>exact d.elim
 | panic ch=>exact d.elim
 | outgrown=>exact d.elim
theorem Ax(d:ah.funcs[f]? = some fn)(e:fn.body=some c){args:List AV}{S:St}{post:AV->St->Prop}(N:Nat)(g:fn.ntmps=N)(b:jD N c=true)(a:args.length<=N)(_hne:fn.results.size≠0)
  (h:aw c (Et fn.results.toList post) (Hd args) S):cL f args S post:=ra d e N g b a h

theorem cG.below{w':World}(h:Below w.heap.size w w'):cG qu qu w w' :=
 ⟨h.os,h.tape,h.output,h.size,fun k b _=>h.block k b,fun k cs ty fr a=>⟨cs,by rw[h.block k (dW a)];exact a,rfl⟩,fun _ _ h=>h⟩
def z8(f:Nat)(args:List AV)(z:AV):Prop:=∀S,tg f args S z
theorem L8{zb z:Int}(h:∀va vb B w,B<=w.heap.size->ed w B va za->ed w B vb zb->Calls ah f #[va,vb] w (dh w z)):z8 f [.big za,.big zb] (.big z):=by
 intro S w vs _ a
 match vs,a with
 | [va,vb],a =>
  simp only[a6,bB]at a;refine(h va vb w.heap.size w (af _) a.1 a.2.1).mono ?_;rintro e w' ⟨v,rfl,b,c⟩;exact⟨v,rfl,by simpa [bB]using b,cG.below c⟩
 | [],a=>simp[a6]at a
 | [_],a=>simp[a6]at a
 | _::_::_::_,a=>simp[a6]at a
theorem L9{z:Int}(h:∀va B w,B<=w.heap.size->ed w B va za->Calls ah f #[va] w (dh w z)):z8 f [.big za] (.big z):=by
 intro S w vs _ a
 match vs,a with
 | [va],a =>
  simp only[a6,bB]at a;refine(h va w.heap.size w (af _) a.1).mono ?_;rintro e w' ⟨v,rfl,b,c⟩;exact⟨v,rfl,by simpa [bB]using b,cG.below c⟩
 | [],a=>simp[a6]at a
 | _::_::_,a=>simp[a6]at a
theorem tg.spec(h:tg f args S z){post:AV->St->Prop}(c:post z S):cL f args S post:=by
 intro w vs a d;refine(h w vs a d).mono ?_;rintro e w' ⟨v,rfl,g,b⟩;exact⟨v,z,S,rfl,c,g,a.frozen b,b.any _⟩
theorem jq(x:α):∃y:α,y=x:=⟨x,rfl⟩
noncomputable def Aw:Code->(AX->Tm->St->Prop)->Tm->St->Prop:=gR (jq aw)
theorem oM:Aw=aw:=ef (jq aw)
noncomputable def BQ:Array Oper->List Oper->Tm->St->(Tm->St->Prop)->Prop:=gR (jq Bp)
theorem uz:BQ=Bp:=ef (jq Bp)
noncomputable def EJ:Array Oper->Tm->St->(Tm->St->Prop)->Prop:=gR (jq KT)
theorem rY:EJ=KT:=ef (jq KT)
noncomputable def Dh:List Oper->Tm->St->List (Nat×dH)->(Tm->List (Nat×dH)->Prop)->Prop:=gR (jq Br)
theorem pm:Dh=Br:=ef (jq Br)
noncomputable def LZ:List Oper->List (List Nat)->List Oper->Tm->St->(Tm->St->Prop)->Prop:=gR (jq G0)
theorem BP:LZ=G0:=ef (jq G0)
noncomputable def Jm:Oper->Tm->St->(AV->St->Prop)->Prop:=gR (jq Bw)
theorem uA:Jm=Bw:=ef (jq Bw)
noncomputable def tE:List (Nat×dH)->Tm->St->(Tm->St->Prop)->Prop:=gR (jq mS)
theorem tD:tE=mS:=ef (jq mS)
structure Ji{α:Type}(x:α):Type where
structure Dep2{α β:Type}(x:α)(y:β):Type where
def au(S:St)(K:Nat->Prop)(_u:Ji K:=⟨⟩):Prop:=∀b,S b=ae->K b
def LU(f:Nat)(args:List AV)(S:St)(K:AV->St->Prop)(_u:Ji K:=⟨⟩):Prop:=cL f args S K
def yf(t t':TypeId)(s x:AV)(S:St)(K:AV->St->Prop)(_u:Ji K:=⟨⟩):Prop:=fZ t t' s x S K
def GF(t:TypeId)(s x:AV)(S:St)(K:AV->St->Prop)(_u:Ji K:=⟨⟩):Prop:=qo t s x S K
def yb(t:TypeId)(s x:AV)(S:St)(K:AV->St->Prop)(_u:Ji K:=⟨⟩):Prop:=uR t s x S K
noncomputable def AwDK(ops:Array Oper)(O:Tm)(S:St)(K:Tm->St->Prop)(_u:Dep2 ops K:=⟨⟩):Prop:=EJ ops O S K
noncomputable def AwLK(c:Code)(Q:AX->Tm->St->Prop)(O:Tm)(S:St)(_u:Dep2 c Q:=⟨⟩):Prop:=Aw (.loop c) Q O S
theorem au.intro(h:∀b,S b=ae->K b):au S K:=h
def gd(y:AV)(want:Bool)(A B:Prop):Prop:=match y with
 | .bool b=>if b=want then A else B
 | _=>False
def cd(y:AV)(A B:Prop):Prop:=match y with
 | .bool b=>if b=true then A else B
 | _=>False
def xY(c x y:AV)(K:AV->Prop):Prop:=match c with
 | .bool t=>K (if t then x else y)
 | _=>False
def KW(x:AV)(K:AV->Prop):Prop:=match x with
 | .ptr es b i=>K (.ptr es b i)
 | .pat es y=>K (.pat es y)
 | _=>False
def FE(x:AV)(i:Nat)(K:AV->Prop):Prop:=match x with
 | .tup l=>(match l[i]? with
  | some z=>K z
  | ae=>False)
 | _=>False
def Bx(f:AV)(args:List AV)(S:St)(K:AV->St->Prop):Prop:=match f with
 | .fn f l=>((11<=f/\f<270)/\f≠252/\f≠253)/\LU f (args++l) S K
 | .mfn f l=>((11<=f/\f<270)/\f≠252/\f≠253)/\LU f (l++args) S K
 | _=>False
def Is(f:AV)(args:List AV)(S:St)(z:AV):Prop:=match f with
 | .fn f l=>((11<=f/\f<270)/\f≠252/\f≠253)/\tg f (args++l) S z
 | _=>False
@[congr] theorem gd_congr{y y':AV}{b:Bool}{A B:Prop}(h:y=y'):gd y b A B=gd y' b A B:=by rw[h]
@[congr] theorem cd_congr{y y':AV}{A B:Prop}(h:y=y'):cd y A B=cd y' A B:=by rw[h]
@[congr] theorem LM{c c' x x' y y':AV}{K:AV->Prop}(h:c=c')(h2:x=x')(h3:y=y'):xY c x y K=xY c' x' y' K:=by rw[h,h2,h3]
@[congr] theorem MW{x x':AV}{K:AV->Prop}(h:x=x'):KW x K=KW x' K:=by rw[h]
@[congr] theorem LP{x x':AV}{i:Nat}{K:AV->Prop}(h:x=x'):FE x i K=FE x' i K:=by rw[h]
@[congr] theorem K7{f f':AV}{l l':List AV}{S:St}{K:AV->St->Prop}(h:f=f')(h2:l=l'):Bx f l S K=Bx f' l' S K:=by rw[h,h2]
@[go_sem] theorem gd_tt{A B:Prop}:gd (.bool true) true A B=A:=by simp[gd]
@[go_sem] theorem gd_ff{A B:Prop}:gd (.bool false) false A B=A:=by simp[gd]
@[go_sem] theorem gd_tf{A B:Prop}:gd (.bool true) false A B=B:=by simp[gd]
@[go_sem] theorem gd_ft{A B:Prop}:gd (.bool false) true A B=B:=by simp[gd]
@[go_sem] theorem cd_t{A B:Prop}:cd (.bool true) A B=A:=by simp[cd]
@[go_sem] theorem cd_f{A B:Prop}:cd (.bool false) A B=B:=by simp[cd]
@[go_sem] theorem aPick_t{x y:AV}{K:AV->Prop}:xY (.bool true) x y K=K x:=by simp[xY]
@[go_sem] theorem aPick_f{x y:AV}{K:AV->Prop}:xY (.bool false) x y K=K y:=by simp[xY]
attribute [go_sem] KW FE Bx Is xZ
section
variable {O O':Tm} {S:St} {K1:AV->Prop} {K2:AV->St->Prop} {K3:Tm->St->Prop} {KS:St->Prop} {x x' y y':AV} {t t2 f:Nat}
@[congr] theorem Nz{c:Code}{Q:AX->Tm->St->Prop}(h:O=O'):Aw c Q O S=Aw c Q O' S:=by rw[h]
@[congr] theorem MO{ops:Array Oper}{l:List Oper}(h:O=O'):BQ ops l O S K3=BQ ops l O' S K3:=by rw[h]
@[congr] theorem MQ{ops:Array Oper}(h:O=O'):EJ ops O S K3=EJ ops O' S K3:=by rw[h]
@[congr] theorem MP{l:List Oper}{pend pend':List (Nat×dH)}{H:Tm->List (Nat×dH)->Prop}(h:O=O')(hp:pend=pend'):Dh l O S pend H=Dh l O' S pend' H:=by rw[h,hp]
@[congr] theorem MN{ops l:List Oper}{js:List (List Nat)}(h:O=O'):LZ ops js l O S K3=LZ ops js l O' S K3:=by rw[h]
@[congr] theorem KU{pend pend':List (Nat×dH)}(h:O=O')(hp:pend=pend'):tE pend O S K3=tE pend' O' S K3:=by rw[h,hp]
@[congr] theorem MV{o:Oper}(h:O=O'):Jm o O S K2=Jm o O' S K2:=by rw[h]
@[congr] theorem K6{c:Call}(h:O=O'):uT O c S K2=uT O' c S K2:=by rw[h]
@[congr] theorem Ju:nQ t S K2=nQ t S K2:=rfl
@[congr] theorem LQ(h:x=x'):jT t x S K2=jT t x' S K2:=by rw[h]
@[congr] theorem KY(h:x=x')(h2:y=y'):lj t x y S K2=lj t x' y' S K2:=by rw[h,h2]
@[congr] theorem KZ(h:x=x'):qn t x S K1=qn t x' S K1:=by rw[h]
@[congr] theorem Jp(h:x=x')(h2:y=y'):rQ t x y S KS=rQ t x' y' S KS:=by rw[h,h2]
@[congr] theorem Jr(h:x=x')(h2:y=y'):rR t x y K1=rR t x' y' K1:=by rw[h,h2]
@[congr] theorem Js(h:x=x'):rS t x f K1=rS t x' f K1:=by rw[h]
@[congr] theorem LN(h:x=x'):Er t x K1=Er t x' K1:=by rw[h]
@[congr] theorem LR{op:BinOp}(h:x=x')(h2:y=y'):Ex op t x y K1=Ex op t x' y' K1:=by rw[h,h2]
@[congr] theorem MT{op:UnOp}(h:x=x'):MU op x K1=MU op x' K1:=by rw[h]
@[congr] theorem K5(h:x=x'):yc t t2 x K1=yc t t2 x' K1:=by rw[h]
@[congr] theorem Jt{ps ps':List (Nat×AV)}(h:ps=ps'):rT t ps K1=rT t ps' K1:=by rw[h]
@[congr] theorem Eu{n:Nat}{ps ps':List (Nat×AV)}(h:ps=ps'):cI t n ps S K2=cI t n ps' S K2:=by rw[h]
@[congr] theorem Jq{lo lo' hi hi' mx mx':Option AV}(h:x=x')(h1:lo=lo')(h2:hi=hi')(h3:mx=mx'):kQ t x lo hi mx K1=kQ t x' lo' hi' mx' K1:=by rw[h,h1,h2,h3]
@[congr] theorem I7(h:x=x')(h2:y=y'):fZ t t2 x y S K2=fZ t t2 x' y' S K2:=by rw[h,h2]
@[congr] theorem K0(h:x=x')(h2:y=y'):uR t x y S K2=uR t x' y' S K2:=by rw[h,h2]
@[congr] theorem LL{rs:List ResultVar}{K:List AV->Prop}(h:O=O'):yT rs O S K=yT rs O' S K:=by rw[h]
@[congr] theorem LO{rs:List ResultVar}{e:AX}(h:O=O'):Et rs K2 e O S=Et rs K2 e O' S:=by rw[h]
@[congr] theorem Lg{args args':List AV}{z:AV}(h:args=args'):tg f args S z=tg f args' S z:=by rw[h]
end
section
variable {Q:AX->Tm->St->Prop} {O:Tm} {S:St} {x y c:Code} {id i:Nat} {ops:Array Oper} {K:Tm->St->Prop} {H:AV->St->Prop} {l:List Oper} {o:Oper}
@[go_sem ↓] theorem aw_skip:Aw .skip Q O S=Q .normal O S:=by rw[oM,aw]
@[go_sem ↓] theorem MM:Aw (.region id ops false) Q O S=BQ ops ops.toList O S (Q .normal):=by rw[oM,uz,aw]
@[go_sem ↓] theorem aw_draw:Aw (.region id ops true) Q O S=AwDK ops O S (Q .normal):=by unfold AwDK;rw[oM,rY,aw]
@[go_sem ↓] theorem aw_lp:Aw (.loop c) Q O S=AwLK c Q O S:=rfl
@[go_sem ↓] theorem I0:Aw (.seq x y) Q O S=Aw x (AX.seq (Aw y Q) Q) O S:=by rw[oM,aw]
@[go_sem ↓] theorem aw_block:Aw (.block id c) Q O S=Aw c (AX.blk id Q) O S:=by rw[oM,aw]
@[go_sem ↓] theorem aw_exit:Aw (.exit id) Q O S=Q (.exit id) O S:=by rw[oM,aw]
@[go_sem ↓] theorem aw_scope:Aw (.scope x) Q O S=Aw x Q O S:=by rw[oM,aw]
@[go_sem ↓] theorem aw_label{l:Nat}:Aw (.label l) Q O S=Q .normal O S:=by rw[oM,aw]
@[go_sem ↓] theorem aw_ret:Aw .ret Q O S=Q .ret O S:=by rw[oM,aw]
@[go_sem ↓] theorem wL:AX.seq K Q .normal=K:=rfl
@[go_sem ↓] theorem seq_ret:AX.seq K Q .ret=Q .ret:=rfl
@[go_sem ↓] theorem seq_exit:AX.seq K Q (.exit i)=Q (.exit i):=rfl
@[go_sem ↓] theorem MK:AX.blk id Q .normal=Q .normal:=rfl
@[go_sem ↓] theorem blk_ret:AX.blk id Q .ret=Q .ret:=rfl
@[go_sem ↓] theorem IU:AX.blk id Q (.exit i)=if i=id then Q .normal else Q (.exit i):=rfl
@[go_sem ↓] theorem awL_nil:BQ ops [] O S K=K O S:=by rw[uz,Bp]
theorem aI(I:Tm->St->Prop)(μ:Tm->St->Nat)(a:I O S)(b:∀O S,I O S->Aw c (AX.seq (fun O' S'=>I O' S'/\μ O' S' < μ O S) Q) O S):Aw (.loop c) Q O S:=by
 rw[oM]at *;exact⟨I,μ,a,b⟩
end
theorem Kd{b c:Bool}:((b=c->p)/\(b=!c->q))=if b=c then p else q:=by
 cases b<;>cases c<;>simp
theorem Ii{b:Bool}:((b=true->p)/\(b=false->q))=if b=true then p else q:=by
 cases b<;>simp
@[go_sem ↓] theorem Em{e:Operand}{x y:Code}{Q:AX->Tm->St->Prop}{O:Tm}{S:St}:Aw (.cond e x y) Q O S=cd (ev O e) (Aw x Q O S) (Aw y Q O S):=by
 rw[oM,aw];unfold cd
 cases ev O e<;>first|rfl|exact Ii
@[go_sem ↓] theorem awL_go{ops:Array Oper}{l:List Oper}{O:Tm}{S:St}{K:Tm->St->Prop}{o:Oper}:BQ ops (o::l) O S K=(match o.guard with
  | ae=>Jm o O S (fun z S'=>BQ ops l (O.put o.dst z) S' K)
  | some (j,want)=>gd (EL ops O j) want (Jm o O S (fun z S'=>BQ ops l (O.put o.dst z) S' K)) (BQ ops l (O.put o.dst .any) S K)):=by
 rw[uz,uA,Bp]
 cases o.guard with
 | none=>rfl
 | some p =>
  obtain⟨j,want⟩:=p;simp only[gd]
  cases EL ops O j<;>first|rfl|exact Kd
@[go_sem ↓] theorem aCall_go{O:Tm}{c:Call}{S:St}{K:AV->St->Prop}:uT O c S K=(match c.callee with
 | .value f=>Bx (ev O f) (c.args.toList.map (ev O)) S K
 | .builtin .len=>(match c.args.toList,c.argTypes.toList with
  | [x],[t]=>Er t (ev O x) (fun z=>K z S)
  | _,_=>False)
 | .builtin .max=>(match c.args.toList with
  | [x,y]=>KX (ev O x) (ev O y) (fun z=>K z S)
  | _=>False)
 | .builtin .append=>(match c.args.toList,c.argTypes.toList with
  | [s,x],[t,t']=>if t'=3 then GF t (ev O s) (ev O x) S K else yf t t' (ev O s) (ev O x) S K
  | _,_=>False)
 | .builtin .copy=>(match c.args.toList,c.argTypes.toList with
  | [s,x],[t,_]=>yb t (ev O s) (ev O x) S K
  | _,_=>False)
 | _=>False):=rfl
@[go_sem ↓] theorem AOp_go{o:Oper}{O:Tm}{S:St}{K:AV->St->Prop}:Jm o O S K=(match o.op with
  | .move x=>K (ev O x) S
  | .assign x=>K (ev O x) S
  | .pick c x y=>xY (ev O c) (ev O x) (ev O y) (fun z=>K z S)
  | .alloc t=>nQ t S K
  | .box t x=>jT t (ev O x) S K
  | .build t ps=>rT t (ps.toList.map fun p=>(p.1,ev O p.2)) (fun z=>K z S)
  | .buildSlice t n ps=>cI t n (ps.toList.map fun p=>(p.1,ev O p.2)) S K
  | .load t x=>qn t (ev O x) S (fun z=>K z S)
  | .store t x y=>rQ t (ev O x) (ev O y) S (fun S'=>K .any S')
  | .nilCheck x=>KW (ev O x) (fun z=>K z S)
  | .binOp op t x y _=>Ex op t (ev O x) (ev O y) (fun z=>K z S)
  | .unOp op _ x=>MU op (ev O x) (fun z=>K z S)
  | .convert s d x=>yc s d (ev O x) (fun z=>K z S)
  | .makeFunc (.func f) fi cs=>xZ f (fi.toList.map (ev O)) (cs.toList.map (ev O)) (fun z=>K z S)
  | .makeSlice t x y=>lj t (ev O x) (ev O y) S K
  | .slice t x lo hi mx=>kQ t (ev O x) (lo.map (ev O)) (hi.map (ev O)) (mx.map (ev O)) (fun z=>K z S)
  | .fieldAddr t x f=>rS t (ev O x) f (fun z=>K z S)
  | .indexAddr t x i=>rR t (ev O x) (ev O i) (fun z=>K z S)
  | .index t x i=>yU t (ev O x) (ev O i) (fun z=>K z S)
  | .extract x i=>FE (ev O x) i (fun z=>K z S)
  | .call c=>uT O c S K
  | _=>False):=by rw[uA,Bw]<;>rfl
theorem gL(d:ah.funcs[f]? = some fn)(e:fn.body=some c){args:List AV}{S:St}{post:AV->St->Prop}(N:Nat)(g:fn.ntmps=N)(b:jD N c=true)(a:args.length<=N)
  (h:Aw c (Et fn.results.toList post) (Hd args) S):cL f args S post:=ra d e N g b a (by rw[oM]at h;exact h)
theorem ak(e:ah.funcs[f]? = some fn)(g:fn.body=some c){args:List AV}{S:St}{post:AV->St->Prop}(N:Nat)(i:fn.ntmps=N)(b:jD N c=true)(a:args.length<=N)(d:fn.results.size≠0)
  (h:Aw c (Et fn.results.toList post) (Hd args) S):cL f args S post:=Ax e g N i b a d (by rw[oM]at h;exact h)
@[go_sem] theorem put_hit{O:Tm}{d:Nat}{x:AV}:O.put (some d) x d=x:=by simp[Tm.put_eq]
@[go_sem] theorem put_miss{O:Tm}{d t:Nat}{x:AV}(h:t≠d):O.put (some d) x t=O t:=by simp[Tm.put_eq,h]
@[go_sem] theorem put_no{O:Tm}{x:AV}:O.put ae x=O:=by rw[Tm.put_eq]
noncomputable def Lt(k:Nat):List AV->Tm
 | []=>fun _=>.any
 | a::l=>(Lt (k+1) l).put (some k) a
theorem Hb:∀(l:List AV) (k t:Nat),Lt k l t=if k<=t then l.getD (t-k) .any else .any
 | [],k,t=>by simp[Lt]
 | a::l,k,t=>by
  simp only[Lt,Tm.put_eq];by_cases e:t=k
  ·subst e;simp
  ·rw[if_neg e,Hb l (k+1) t];by_cases h:k<=t
   ·rw[if_pos om,if_pos h,(om:t-k=(t-(k+1))+1)];simp
   ·rw[if_neg om,if_neg h]
theorem aF(l:List AV):Hd l=Lt 0 l:=by funext t;rw[Hb];simp[Hd]
@[go_sem] theorem tmP_nil{k:Nat}:Lt k []=fun _=>.any:=rfl
@[go_sem] theorem tmP_cons{k:Nat}{a:AV}{l:List AV}:Lt k (a::l)=(Lt (k+1) l).put (some k) a:=rfl
@[go_sem ↓] theorem alloc50{S:St}{K:AV->St->Prop}:nQ 50 S K=au S (fun b=>K (.ptr 2 b 0) (S.upd b ⟨50,2,1,fun _=>.big 0⟩)):=rfl
@[go_sem ↓] theorem alloc52{S:St}{K:AV->St->Prop}:nQ 52 S K=au S (fun b=>K (.ptr 1 b 0) (S.upd b ⟨52,1,1,fun _=>.nil⟩)):=rfl
@[go_sem ↓] theorem alloc4{S:St}{K:AV->St->Prop}:nQ 4 S K=au S (fun b=>K (.ptr 1 b 0) (S.upd b ⟨4,1,1,fun _=>.bool false⟩)):=rfl
@[go_sem ↓] theorem alloc167{S:St}{K:AV->St->Prop}:nQ 167 S K=au S (fun b=>K (.ptr 2 b 0) (S.upd b ⟨167,2,2,fun _=>.big 0⟩)):=rfl
@[go_sem] theorem bR{S:St}{b:Nat}{X:dH}:S.upd b X b=some X:=by simp[St.upd]
@[go_sem] theorem aH{S:St}{b c:Nat}{X:dH}(h:c≠b):S.upd b X c=S c:=by simp[St.upd,h]
@[go_sem] theorem slots_2:eU 2=some (1,1):=rfl
@[go_sem] theorem slots_3:eU 3=some (1,1):=rfl
@[go_sem] theorem slots_4:eU 4=some (1,1):=rfl
@[go_sem] theorem slots_5:eU 5=some (1,1):=rfl
@[go_sem] theorem slots_22:eU 22=some (1,1):=rfl
@[go_sem] theorem slots_25:eU 25=some (1,1):=rfl
@[go_sem] theorem slots_28:eU 28=some (1,1):=rfl
@[go_sem] theorem slots_29:eU 29=some (1,1):=rfl
@[go_sem] theorem slots_34:eU 34=some (1,1):=rfl
@[go_sem] theorem slots_48:eU 48=some (1,1):=rfl
@[go_sem] theorem LB:fI 50 0=ae:=rfl
@[go_sem] theorem Lz:fI 50 1=ae:=rfl
@[go_sem] theorem elemT_48:dw 48=ae:=rfl
@[go_sem] theorem slots_41:eU 41=some (1,1):=rfl
@[go_sem] theorem slots_52:eU 52=some (1,1):=rfl
@[go_sem] theorem slots_59:eU 59=some (1,1):=rfl
@[go_sem] theorem slots_97:eU 97=some (1,1):=rfl
@[go_sem] theorem Nn:eU 146=some (1,1):=rfl
@[go_sem] theorem Nm:eU 158=some (1,1):=rfl
@[go_sem] theorem Ni:eU 192=some (1,1):=rfl
@[go_sem] theorem Nf:eU 216=some (1,1):=rfl
@[go_sem] theorem slots_50:eU 50=some (2,1):=rfl
@[go_sem] theorem Nk:eU 167=some (2,2):=rfl
@[go_sem] theorem Nh:eU 195=some (2,2):=rfl
@[go_sem] theorem Ng:eU 197=some (2,7):=rfl
@[go_sem] theorem slots_24:eU 24=some (1,4):=rfl
@[go_sem] theorem slots_27:eU 27=some (1,6):=rfl
@[go_sem] theorem No:eU 107=some (1,2):=rfl
@[go_sem] theorem Nl:eU 160=some (1,4):=rfl
@[go_sem] theorem Nj:eU 183=some (1,2):=rfl
@[go_sem] theorem Nd:eU 218=some (1,2):=rfl
@[go_sem] theorem elemT_22:dw 22=some 41:=rfl
@[go_sem] theorem elemS_41:bS 41=1:=rfl
@[go_sem] theorem elemT_28:dw 28=some 29:=rfl
@[go_sem] theorem elemT_29:dw 29=some 2:=rfl
@[go_sem] theorem elemT_52:dw 52=some 59:=rfl
@[go_sem] theorem elemT_59:dw 59=some 50:=rfl
@[go_sem] theorem Nv:dw 146=some 3:=rfl
@[go_sem] theorem Nu:dw 192=some 52:=rfl
@[go_sem] theorem Nt:dw 216=some 59:=rfl
@[go_sem] theorem elemS_2:bS 2=1:=rfl
@[go_sem] theorem elemS_3:bS 3=1:=rfl
@[go_sem] theorem elemS_29:bS 29=1:=rfl
@[go_sem] theorem elemS_59:bS 59=1:=rfl
@[go_sem] theorem elemS_50:bS 50=2:=rfl
@[go_sem] theorem elemS_52:bS 52=1:=rfl
@[go_sem] theorem make_28{k k':IntKind}{n n':Int}{S:St}{K:AV->St->Prop}:lj 28 (.int k n) (.int k' n') S K=((AV.int k n=.int k' n')/\(0<=n/\n<=1099511627776)/\au S (fun b=>K (.sl 1 b 0 n.toNat) (S.upd b ⟨29,1,n.toNat,fun _=>.nil⟩))):=by
 simp only[lj,dw,fD,bS,true_and];rfl
@[go_sem] theorem make_29{k k':IntKind}{n n':Int}{S:St}{K:AV->St->Prop}:lj 29 (.int k n) (.int k' n') S K=((AV.int k n=.int k' n')/\(0<=n/\n<=1099511627776)/\au S (fun b=>K (.sl 1 b 0 n.toNat) (S.upd b ⟨2,1,n.toNat,fun _=>.int .i64 0⟩))):=by
 simp only[lj,dw,fD,bS,true_and];rfl
@[go_sem] theorem make_52{k k':IntKind}{n n':Int}{S:St}{K:AV->St->Prop}:lj 52 (.int k n) (.int k' n') S K=((AV.int k n=.int k' n')/\(0<=n/\n<=1099511627776)/\au S (fun b=>K (.sl 1 b 0 n.toNat) (S.upd b ⟨59,1,n.toNat,fun _=>.nil⟩))):=by
 simp only[lj,dw,fD,bS,true_and];rfl
@[go_sem] theorem make_59{k k':IntKind}{n n':Int}{S:St}{K:AV->St->Prop}:lj 59 (.int k n) (.int k' n') S K=((AV.int k n=.int k' n')/\(0<=n/\n<=1099511627776)/\au S (fun b=>K (.sl 2 b 0 n.toNat) (S.upd b ⟨50,2,n.toNat,fun _=>.big 0⟩))):=by
 simp only[lj,dw,fD,bS,true_and];rfl
@[go_sem] theorem make_146{k k':IntKind}{n n':Int}{S:St}{K:AV->St->Prop}:lj 146 (.int k n) (.int k' n') S K=((AV.int k n=.int k' n')/\(0<=n/\n<=1099511627776)/\au S (fun b=>K (.sl 1 b 0 n.toNat) (S.upd b ⟨3,1,n.toNat,fun _=>.int .i64 0⟩))):=by
 simp only[lj,dw,fD,bS,true_and];rfl
@[go_sem] theorem make_216{k k':IntKind}{n n':Int}{S:St}{K:AV->St->Prop}:lj 216 (.int k n) (.int k' n') S K=((AV.int k n=.int k' n')/\(0<=n/\n<=1099511627776)/\au S (fun b=>K (.sl 1 b 0 n.toNat) (S.upd b ⟨59,1,n.toNat,fun _=>.nil⟩))):=by
 simp only[lj,dw,fD,bS,true_and];rfl
@[go_sem] theorem LK:fI 24 0=some (1,0):=rfl
@[go_sem] theorem LJ:fI 24 1=some (1,1):=rfl
@[go_sem] theorem LH:fI 24 2=some (1,2):=rfl
@[go_sem] theorem LG:fI 24 3=some (1,3):=rfl
@[go_sem] theorem LE:fI 27 0=some (1,0):=rfl
@[go_sem] theorem LD:fI 27 1=some (1,4):=rfl
@[go_sem] theorem LC:fI 27 2=some (1,5):=rfl
@[go_sem] theorem KE:fI 107 0=some (1,0):=rfl
@[go_sem] theorem KD:fI 107 1=some (1,1):=rfl
@[go_sem] theorem KC:fI 160 0=some (1,0):=rfl
@[go_sem] theorem KB:fI 160 1=some (1,1):=rfl
@[go_sem] theorem KA:fI 160 2=some (1,2):=rfl
@[go_sem] theorem Kz:fI 160 3=some (1,3):=rfl
@[go_sem] theorem Ky:fI 167 0=some (2,0):=rfl
@[go_sem] theorem Kx:fI 167 1=some (2,1):=rfl
@[go_sem] theorem Kw:fI 183 0=some (1,0):=rfl
@[go_sem] theorem Kv:fI 183 1=some (1,1):=rfl
@[go_sem] theorem Ku:fI 197 0=some (2,0):=rfl
@[go_sem] theorem Kt:fI 197 1=some (2,1):=rfl
@[go_sem] theorem Ks:fI 197 2=some (2,2):=rfl
@[go_sem] theorem Kr:fI 197 3=some (2,3):=rfl
@[go_sem] theorem Kq:fI 197 4=some (2,5):=rfl
@[go_sem] theorem Kp:fI 218 0=some (1,0):=rfl
@[go_sem] theorem Ko:fI 218 1=some (1,1):=rfl
@[go_sem] theorem kindT_2:uM 2=some .i64:=rfl
@[go_sem] theorem kindT_3:uM 3=some .i64:=rfl
@[go_sem] theorem kindT_5:uM 5=some .u8:=rfl
@[go_sem] theorem kindT_34:uM 34=some .i64:=rfl
@[go_sem] theorem kindT_97:uM 97=some .u64:=rfl
@[go_sem] theorem srcT_2:Av 2=true:=rfl
@[go_sem] theorem srcT_3:Av 3=true:=rfl
@[go_sem] theorem srcT_5:Av 5=true:=rfl
@[go_sem] theorem srcT_25:Av 25=true:=rfl
@[go_sem] theorem srcT_41:Av 41=true:=rfl
@[go_sem] theorem srcT_97:Av 97=true:=rfl
@[go_sem] theorem box_2{x:AV}{S:St}{K:AV->St->Prop}:jT 2 x S K=(dN 1 x/\au S (fun b=>K (.ptr 1 b 0) (S.upd b ⟨2,1,1,fun _=>x⟩))):=rfl
@[go_sem] theorem box_3{x:AV}{S:St}{K:AV->St->Prop}:jT 3 x S K=(dN 1 x/\au S (fun b=>K (.ptr 1 b 0) (S.upd b ⟨3,1,1,fun _=>x⟩))):=rfl
@[go_sem] theorem box_4{x:AV}{S:St}{K:AV->St->Prop}:jT 4 x S K=(dN 1 x/\au S (fun b=>K (.ptr 1 b 0) (S.upd b ⟨4,1,1,fun _=>x⟩))):=rfl
@[go_sem] theorem box_5{x:AV}{S:St}{K:AV->St->Prop}:jT 5 x S K=(dN 1 x/\au S (fun b=>K (.ptr 1 b 0) (S.upd b ⟨5,1,1,fun _=>x⟩))):=rfl
@[go_sem] theorem box_22{x:AV}{S:St}{K:AV->St->Prop}:jT 22 x S K=(dN 1 x/\au S (fun b=>K (.ptr 1 b 0) (S.upd b ⟨22,1,1,fun _=>x⟩))):=rfl
@[go_sem] theorem box_25{x:AV}{S:St}{K:AV->St->Prop}:jT 25 x S K=(dN 1 x/\au S (fun b=>K (.ptr 1 b 0) (S.upd b ⟨25,1,1,fun _=>x⟩))):=rfl
@[go_sem] theorem box_28{x:AV}{S:St}{K:AV->St->Prop}:jT 28 x S K=(dN 1 x/\au S (fun b=>K (.ptr 1 b 0) (S.upd b ⟨28,1,1,fun _=>x⟩))):=rfl
@[go_sem] theorem box_29{x:AV}{S:St}{K:AV->St->Prop}:jT 29 x S K=(dN 1 x/\au S (fun b=>K (.ptr 1 b 0) (S.upd b ⟨29,1,1,fun _=>x⟩))):=rfl
@[go_sem] theorem box_34{x:AV}{S:St}{K:AV->St->Prop}:jT 34 x S K=(dN 1 x/\au S (fun b=>K (.ptr 1 b 0) (S.upd b ⟨34,1,1,fun _=>x⟩))):=rfl
@[go_sem] theorem box_41{x:AV}{S:St}{K:AV->St->Prop}:jT 41 x S K=(dN 1 x/\au S (fun b=>K (.ptr 1 b 0) (S.upd b ⟨41,1,1,fun _=>x⟩))):=rfl
@[go_sem] theorem box_52{x:AV}{S:St}{K:AV->St->Prop}:jT 52 x S K=(dN 1 x/\au S (fun b=>K (.ptr 1 b 0) (S.upd b ⟨52,1,1,fun _=>x⟩))):=rfl
@[go_sem] theorem box_59{x:AV}{S:St}{K:AV->St->Prop}:jT 59 x S K=(dN 1 x/\au S (fun b=>K (.ptr 1 b 0) (S.upd b ⟨59,1,1,fun _=>x⟩))):=rfl
@[go_sem] theorem box_97{x:AV}{S:St}{K:AV->St->Prop}:jT 97 x S K=(dN 1 x/\au S (fun b=>K (.ptr 1 b 0) (S.upd b ⟨97,1,1,fun _=>x⟩))):=rfl
@[go_sem] theorem box_146{x:AV}{S:St}{K:AV->St->Prop}:jT 146 x S K=(dN 1 x/\au S (fun b=>K (.ptr 1 b 0) (S.upd b ⟨146,1,1,fun _=>x⟩))):=rfl
@[go_sem] theorem box_158{x:AV}{S:St}{K:AV->St->Prop}:jT 158 x S K=(dN 1 x/\au S (fun b=>K (.ptr 1 b 0) (S.upd b ⟨158,1,1,fun _=>x⟩))):=rfl
@[go_sem] theorem box_192{x:AV}{S:St}{K:AV->St->Prop}:jT 192 x S K=(dN 1 x/\au S (fun b=>K (.ptr 1 b 0) (S.upd b ⟨192,1,1,fun _=>x⟩))):=rfl
@[go_sem] theorem box_216{x:AV}{S:St}{K:AV->St->Prop}:jT 216 x S K=(dN 1 x/\au S (fun b=>K (.ptr 1 b 0) (S.upd b ⟨216,1,1,fun _=>x⟩))):=rfl
@[go_sem] theorem box_50{x:AV}{S:St}{K:AV->St->Prop}:jT 50 x S K=(dN 2 x/\au S (fun b=>K (.ptr 2 b 0) (S.upd b ⟨50,2,1,fun _=>x⟩))):=rfl
@[go_sem] theorem box_167{l:List AV}{S:St}{K:AV->St->Prop}:jT 167 (.agg l) S K=(l.length=2/\(∀z∈l,dN 2 z)/\au S (fun b=>K (.ptr 2 b 0) (S.upd b ⟨167,2,2,fun j=>l.getD j .any⟩))):=rfl
@[go_sem] theorem box_195{l:List AV}{S:St}{K:AV->St->Prop}:jT 195 (.agg l) S K=(l.length=2/\(∀z∈l,dN 2 z)/\au S (fun b=>K (.ptr 2 b 0) (S.upd b ⟨195,2,2,fun j=>l.getD j .any⟩))):=rfl
@[go_sem] theorem box_197{l:List AV}{S:St}{K:AV->St->Prop}:jT 197 (.agg l) S K=(l.length=7/\(∀z∈l,dN 2 z)/\au S (fun b=>K (.ptr 2 b 0) (S.upd b ⟨197,2,7,fun j=>l.getD j .any⟩))):=rfl
@[go_sem] theorem box_24{l:List AV}{S:St}{K:AV->St->Prop}:jT 24 (.agg l) S K=(l.length=4/\(∀z∈l,dN 1 z)/\au S (fun b=>K (.ptr 1 b 0) (S.upd b ⟨24,1,4,fun j=>l.getD j .any⟩))):=rfl
@[go_sem] theorem box_27{l:List AV}{S:St}{K:AV->St->Prop}:jT 27 (.agg l) S K=(l.length=6/\(∀z∈l,dN 1 z)/\au S (fun b=>K (.ptr 1 b 0) (S.upd b ⟨27,1,6,fun j=>l.getD j .any⟩))):=rfl
@[go_sem] theorem box_107{l:List AV}{S:St}{K:AV->St->Prop}:jT 107 (.agg l) S K=(l.length=2/\(∀z∈l,dN 1 z)/\au S (fun b=>K (.ptr 1 b 0) (S.upd b ⟨107,1,2,fun j=>l.getD j .any⟩))):=rfl
@[go_sem] theorem box_160{l:List AV}{S:St}{K:AV->St->Prop}:jT 160 (.agg l) S K=(l.length=4/\(∀z∈l,dN 1 z)/\au S (fun b=>K (.ptr 1 b 0) (S.upd b ⟨160,1,4,fun j=>l.getD j .any⟩))):=rfl
@[go_sem] theorem box_183{l:List AV}{S:St}{K:AV->St->Prop}:jT 183 (.agg l) S K=(l.length=2/\(∀z∈l,dN 1 z)/\au S (fun b=>K (.ptr 1 b 0) (S.upd b ⟨183,1,2,fun j=>l.getD j .any⟩))):=rfl
@[go_sem] theorem box_218{l:List AV}{S:St}{K:AV->St->Prop}:jT 218 (.agg l) S K=(l.length=2/\(∀z∈l,dN 1 z)/\au S (fun b=>K (.ptr 1 b 0) (S.upd b ⟨218,1,2,fun j=>l.getD j .any⟩))):=rfl
@[go_sem] theorem bs_59{x:AV}{S:St}{K:AV->St->Prop}:cI 59 1 [(0,x)] S K=(dN 2 x/\au S (fun b=>K (.sl 2 b 0 1) (S.upd b ⟨50,2,1,fun j=>[x].getD j .any⟩))):=by
 simp only[cI,dw,bS];simp[d9,fD,au]
@[go_sem] theorem hbs_59{x z:AV}:et 59 1 [(0,x)] z=(dN 2 x/\z=.lst 2 1 (fun j=>[x].getD j .any)):=by
 simp only[et,dw,bS];simp[d9,fD]
@[go_sem] theorem bs_52{x:AV}{S:St}{K:AV->St->Prop}:cI 52 1 [(0,x)] S K=(dN 1 x/\au S (fun b=>K (.sl 1 b 0 1) (S.upd b ⟨59,1,1,fun j=>[x].getD j .any⟩))):=by
 simp only[cI,dw,bS];simp[d9,fD,au]
@[go_sem] theorem hbs_52{x z:AV}:et 52 1 [(0,x)] z=(dN 1 x/\z=.lst 1 1 (fun j=>[x].getD j .any)):=by
 simp only[et,dw,bS];simp[d9,fD]
@[go_sem] theorem bs_29{x:AV}{S:St}{K:AV->St->Prop}:cI 29 1 [(0,x)] S K=(dN 1 x/\au S (fun b=>K (.sl 1 b 0 1) (S.upd b ⟨2,1,1,fun j=>[x].getD j .any⟩))):=by
 simp only[cI,dw,bS];simp[d9,fD,au]
@[go_sem] theorem hbs_29{x z:AV}:et 29 1 [(0,x)] z=(dN 1 x/\z=.lst 1 1 (fun j=>[x].getD j .any)):=by
 simp only[et,dw,bS];simp[d9,fD]
@[go_sem] theorem bs_28{x:AV}{S:St}{K:AV->St->Prop}:cI 28 1 [(0,x)] S K=(dN 1 x/\au S (fun b=>K (.sl 1 b 0 1) (S.upd b ⟨29,1,1,fun j=>[x].getD j .any⟩))):=by
 simp only[cI,dw,bS];simp[d9,fD,au]
@[go_sem] theorem hbs_28{x z:AV}:et 28 1 [(0,x)] z=(dN 1 x/\z=.lst 1 1 (fun j=>[x].getD j .any)):=by
 simp only[et,dw,bS];simp[d9,fD]
@[go_sem] theorem bs_146{x:AV}{S:St}{K:AV->St->Prop}:cI 146 1 [(0,x)] S K=(dN 1 x/\au S (fun b=>K (.sl 1 b 0 1) (S.upd b ⟨3,1,1,fun j=>[x].getD j .any⟩))):=by
 simp only[cI,dw,bS];simp[d9,fD,au]
@[go_sem] theorem hbs_146{x z:AV}:et 146 1 [(0,x)] z=(dN 1 x/\z=.lst 1 1 (fun j=>[x].getD j .any)):=by
 simp only[et,dw,bS];simp[d9,fD]
@[go_sem] theorem bs_216{x:AV}{S:St}{K:AV->St->Prop}:cI 216 1 [(0,x)] S K=(dN 1 x/\au S (fun b=>K (.sl 1 b 0 1) (S.upd b ⟨59,1,1,fun j=>[x].getD j .any⟩))):=by
 simp only[cI,dw,bS];simp[d9,fD,au]
@[go_sem] theorem hbs_216{x z:AV}:et 216 1 [(0,x)] z=(dN 1 x/\z=.lst 1 1 (fun j=>[x].getD j .any)):=by
 simp only[et,dw,bS];simp[d9,fD]
attribute [go_sem] ev ofV qn rQ rR rS Er Ex MU yc rT dN Et yT wB

attribute [go_sem] ne_eq not_false_eq_true true_and and_true if_true if_false Int.toNat_natCast Int.toNat_zero aJ List.map_cons List.map_nil List.nil_append List.append_nil List.cons_append forall_const
 Int.natCast_nonneg List.toList_toArray List.length_cons List.length_nil
attribute [go_sem] eq_self true_implies false_implies bne_self_eq_false Bool.true_eq_false dE cS Option.bind_some exists_eq_left' exists_eq_left exists_and_left and_assoc or_false false_or false_and Ci List.take_succ_cons List.take_zero List.drop_succ_cons List.drop_zero List.isEmpty_nil List.isEmpty_cons Bool.false_eq_true qN Cq Bool.and_self List.filterMap_cons List.filterMap_nil
 Bool.not_true Bool.not_false Bool.and_false Bool.and_true Nat.add_zero af exists_const
section
variable {ops:Array Oper} {l:List Oper} {O:Tm} {S:St} {K:Tm->St->Prop} {o:Oper} {pend:List (Nat×dH)} {H:Tm->List (Nat×dH)->Prop} {z:AV} {d:Nat} {X:dH} {r:List (Nat×dH)}
theorem aP(q:Nat)(a:xG ops q=true)(h:Dh (ops.toList.take q) O S [] (fun O' pend=>if pend.isEmpty then BQ ops (ops.toList.drop q) O' S K else tE pend (sM (lL (ops.toList.take q)) O') S (fun O S=>BQ ops (ops.toList.drop q) O S K))):EJ ops O S K:=by
 rw[rY];rw[pm,uz,tD]at h;exact bn ⟨q,a,h⟩
theorem eR(q:Nat)(a:Ft ops q=true)(h:Dh (ops.toList.take q) O S [] (fun O' pend=>pend.isEmpty=true/\BQ ops (ops.toList.drop q) O' S K)):EJ ops O S K:=by
 rw[rY];rw[pm,uz]at h;exact aK (bn ⟨q,a,h⟩)
theorem ej(q:Nat)(js:List (List Nat))(a:zQ ops q js=true)(h:Dh (ops.toList.take q) O S [] (fun O' pend=>pend.isEmpty=true/\LZ ops.toList js (ops.toList.drop q) O' S K)):EJ ops O S K:=by
 rw[rY];rw[pm,BP]at h;exact aK (aK (bn ⟨q,js,a,h⟩))
theorem iw(q:Nat)(js:List (List Nat))(a:zQ ops q js=true)(h:Dh (ops.toList.take q) O S [] (fun O' pend=>tE pend (sM (lL (ops.toList.take q)) O') S (fun O S=>lv ops.toList O S (xt js)/\LZ ops.toList js (ops.toList.drop q) O S K))):EJ ops O S K:=by
 rw[rY];rw[pm,BP,tD]at h;exact aK (aK (aK (bn ⟨q,js,a,h⟩)))
def ny(ops:Array Oper)(o:Oper)(O:Tm)(S:St)(K:Tm->St->Prop):Prop:=match o.guard with
 | ae=>Jm o O S (fun z S'=>K (O.put o.dst z) S')
 | some (j,want)=>(match EL ops O j with
  | .bool b=>(b=want->Jm o O S (fun z S'=>K (O.put o.dst z) S'))/\(b=!want->K (O.put o.dst .any) S)
  | _=>False)
def stI(ops:Array Oper)(P:(Nat->Bool)->Tm->St->Prop):List Oper->Nat->Prop
 | [],_=>True
 | o::r,i=>(∀L O S,P L O S->L i=false->(py o).all L=true->ny ops o O S (P (fun k=>if k=i then true else L k)))/\stI ops P r (i+1)
theorem EU{ops:Array Oper}{P:(Nat->Bool)->Tm->St->Prop}:∀(l:List Oper) (i j:Nat) (o:Oper),stI ops P l i->l[j]? = some o->∀L O S,P L O S->L (i+j)=false->(∀k∈py o,L k=true)->MX ops o O S (P (fun k=>if k=i+j then true else L k))
 | [],i,j,o,_,h=>by simp at h
 | p::r,i,0,o,h,a=>by
  simp only[dE,Option.some.injEq]at a;subst a;intro L O S b c d;have:=h.1 L O S b c (List.all_eq_true.2 d);unfold ny at this;rw[uA]at this;exact this
 | p::r,i,j+1,o,h,a=>by
  rw[cS]at a;have:=EU r (i+1) j o h.2 a;rw[(om:i+1+j=i+(j+1))]at this
  exact this
theorem t7(P:(Nat->Bool)->Tm->St->Prop)(a:I3 ops=true)(b:P (fun _=>false) O S)(c:stI ops P ops.toList 0)(d:∀L O S,P L O S->(∀i,i<ops.toList.length->L i=true)->K O S):EJ ops O S K:=by
 rw[rY];refine aK (aK (aK (aK ⟨P,a,b,fun i o e=>?_,fun L O S f g=>d L O S f (fun i h=>g i (by simpa using h))⟩)))
 have:=EU ops.toList 0 i o c (by simpa using e)
 simp only[aJ]at this;exact this
@[go_sem ↓] theorem awT_nil{os:List Oper}{js:List (List Nat)}:LZ os js [] O S K=K O S:=by rw[BP,G0]
@[go_sem ↓] theorem awT_go{os:List Oper}{js:List (List Nat)}:LZ os js (o::l) O S K=Jm o O S (fun z S'=>lv os (O.put o.dst z) S' (xt js)/\LZ os (Ih js) l (O.put o.dst z) S' K):=by rw[BP,uA,G0]
@[go_sem] theorem jsHd_c{a:List Nat}{l:List (List Nat)}:xt (a::l)=a:=rfl
@[go_sem] theorem jsNx_1{a:List Nat}:Ih [a]=[a]:=rfl
@[go_sem] theorem jsNx_2{a b:List Nat}{l:List (List Nat)}:Ih (a::b::l)=b::l:=rfl
@[go_sem] theorem Mo{os:List Oper}:lv os O S []=True:=by rw[lv]
@[go_sem ↓] theorem Lx{os:List Oper}{j:Nat}{js:List Nat}:lv os O S (j::js)=((match os[j]? with
  | some o=>(match o.dst with
   | some d=>yA o O S (O d)
   | ae=>False)
  | ae=>False)/\lv os O S js):=by rw[lv]<;>rfl
@[go_sem ↓] theorem awH_nil:Dh [] O S pend H=H O pend:=by rw[pm,Br]
@[go_sem ↓] theorem awH_go:Dh (o::l) O S pend H=(match o.op,o.dst with
  | .alloc t,some d=>(match lB t with
   | some X=>Dh l (O.put (some d) .any) S (pend++[(d,X)]) H
   | ae=>False)
  | _,_=>∃z,yA o O S z/\Dh l (O.put o.dst z) S pend H):=by rw[pm,Br]<;>rfl
@[go_sem ↓] theorem HOK_go:yA o O S z=((Ci o.op=true/\Jm o O S (fun z' S'=>z'=z/\S'=S))∨(match o.op with
 | .call c=>(match c.callee with
  | .value f=>Is (ev O f) (c.args.toList.map (ev O)) S z
  | _=>False)
 | .buildSlice t n ps=>et t n (ps.toList.map fun p=>(p.1,ev O p.2)) z
 | _=>False)):=by rw[yA,uA]<;>rfl
@[go_sem ↓] theorem NC:tE [] O S K=K O S:=by rw[tD,mS]
@[go_sem ↓] theorem MS:tE ((d,X)::r) O S K=au S (fun b=>tE r (O.put (some d) (.ptr X.es b 0)) (S.upd b X) K):=by rw[tD,mS]<;>rfl
@[go_sem] theorem NB:lB 50=some ⟨50,2,1,fun _=>.big 0⟩:=rfl
@[go_sem] theorem NA:lB 52=some ⟨52,1,1,fun _=>.nil⟩:=rfl
@[go_sem] theorem MR:lB 167=some ⟨167,2,2,fun _=>.big 0⟩:=rfl
@[go_sem] theorem Nx{ds:List Nat}{t:Nat}:sM ds O t=if ds.contains t&&!qN (O t)then .any else O t:=rfl
end
def we(O:Tm):List Oper->Nat->AV
 | [],_=>.any
 | o::_,0=>(match o.dst with
  | some d=>O d
  | ae=>.any)
 | _::l,j+1=>we O l j
theorem EK(O:Tm):∀(l:List Oper) (j:Nat),EL l.toArray O j=we O l j
 | [],j=>by simp[EL,we]
 | o::l,0=>by simp[EL,we];rfl
 | o::l,j+1=>by
  have:=EK O l j;simp only[EL,we,List.getElem?_toArray,cS]at this ⊢;exact this
@[go_sem] theorem yld_go{l:List Oper}{O:Tm}{j:Nat}:EL l.toArray O j=we O l j:=EK O l j
@[go_sem] theorem Nb{o:Oper}{l:List Oper}{O:Tm}:we O (o::l) 0=(match o.dst with
  | some d=>O d
  | ae=>.any):=by rw[we]
@[go_sem] theorem Nc{o:Oper}{l:List Oper}{O:Tm}{j:Nat}:we O (o::l) (j+1)=we O l j:=by rw[we]
def PF(f:Nat)(args:List AV)(z:AV):Prop :=
 ∀(w:World) (vs:List Value),a6 w qu args vs->Calls ah f vs.toArray w (fun e w'=>∃v,e=.returned v/\bB w' (fun b=>b<w.heap.size) z v/\cG qu qu w w')
def VA(S:St)(x x':AV):Prop:=∀(w:World) (v:Value),dX w S->bB w S.dom x v->bB w qu x' v
def VR(S:St)(x x':AV):Prop:=∀(w:World) (v:Value),dX w S->bB w S.dom x v->bB w (fun b=>¬S.dom b) x' v
def dT(S:St):List AV->List AV->Prop
 | [],[]=>True
 | x::l,y::r=>VA S x y/\dT S l r
 | [],_::_=>False
 | _::_,[]=>False
theorem VA.refl(S:St)(x:AV):VA S x x:=fun _ _ _ h=>bB.turn (fun _ _ a=>a.elim) _ _ h
theorem VR.va{y:AV}(h:VR S x y):VA S x y:=fun w v a b=>bB.turn (fun _ _ c=>c.elim) _ _ (h w v a b)
theorem VR.mf(h:qN x=true):VR S x x:=fun _ _ _ a=>qM h a
theorem vZ{S:St}{w:World}(b:dX w S):∀(l r:List AV) (vs:List Value),dT S l r->a6 w S.dom l vs->a6 w qu r vs
 | [],[],[],_,_=>by simp[a6]
 | x::l,y::r,v::vs,h,a=>by simp only[a6]at a ⊢;exact⟨h.1 w v b a.1,vZ b l r vs h.2 a.2⟩
 | [],[],_::_,_,a=>by simp[a6]at a
 | _::_,_,[],_,a=>by simp[a6]at a
 | [],_::_,_,h,_=>h.elim
 | _::_,[],_,h,_=>h.elim
theorem cD(S:St):∀l,dT S l l
 | []=>trivial
 | x::l=>⟨VA.refl S x,cD S l⟩
theorem PF.pureS(h:PF f args' z)(c:dT S args args'):tg f args S z:=by
 intro w vs a d;refine(h w vs (vZ a _ _ _ c d)).mono ?_;rintro e w' ⟨v,rfl,g,i⟩;exact⟨v,rfl,bB.turn (fun k _ b=>by
  simp only[St.dom]at b
  cases e:S k with
  | none=>exact absurd e b
  | some X=>obtain⟨cs,j,_⟩:=a k X e;exact dW j) _ _ g,i⟩
theorem PF.pure'(h:PF f args z):tg f args S z:=h.pureS (cD S args)
theorem PF.spec(h:PF f args' z)(a:dT S args args'){post:AV->St->Prop}(b:post z S):cL f args S post:=(h.pureS a).spec b
theorem PF.call(h:PF f args z){post:AV->St->Prop}(a:post z S):cL f args S post:=h.pure'.spec a
theorem z8.pf(a:qN z=true)(h:z8 f args z):PF f args z:=by
 intro w vs c;refine(h St.none w vs (fun b x d=>by simp[St.none]at d) (a6.turn (fun _ _ g=>absurd rfl g) _ _ c)).mono ?_
 rintro e w' ⟨v,rfl,i,j⟩;exact⟨v,rfl,qM a i,j⟩
theorem PF.of_spec(h:cL f args St.none (fun r S'=>VR S' r z)):PF f args z:=by
 intro w vs d;refine(h w vs (fun b x g=>by simp[St.none]at g) (a6.turn (fun _ _ c=>absurd rfl c) _ _ d)).mono ?_
 rintro e w' ⟨v,r,S',rfl,i,j,l,a⟩;refine⟨v,rfl,bB.turn (fun k _ c m=>?_) _ _ (i w' v l j),a.os,a.tape,a.output,a.size,fun k c _=>a.keep k c (fun x=>x rfl),a.shape,fun _ _ h=>h⟩;exact a.own k c m rfl
def aR(S:St)(b ty es n:Nat)(g:Nat->AV):Prop:=∃g',S b=some ⟨ty,es,n,g'⟩/\∀i,i<n->g' i=g i
theorem aR.of(h:S b=some ⟨ty,es,n,g⟩):aR S b ty es n g:=⟨g,h,fun _ _=>rfl⟩
theorem aR.ne{c ty' es' n':Nat}(h:aR S b ty es n g)(h':aR S c ty' es' n' g')(d:ty≠ty'):b≠c:=by
 rintro rfl;obtain⟨x,e,_⟩:=h;obtain⟨y,a,_⟩:=h';rw[e]at a;cases a;exact d rfl
theorem aR.fresh{c:Nat}(h:aR S b ty es n g)(a:S c=ae):b≠c:=by
 rintro rfl;obtain⟨x,d,_⟩:=h;rw[d]at a;cases a
theorem aR.upd{c:Nat}(h:aR S b ty es n g)(a:b≠c)(X:dH):aR (S.upd c X) b ty es n g:=by
 obtain⟨x,d,e⟩:=h;exact⟨x,by rw[aH a];exact d,e⟩
theorem aR.here(h:∀i,i<n->g' i=g i):aR (S.upd b ⟨ty,es,n,g'⟩) b ty es n g:=⟨g',bR,h⟩
theorem aR.congr(h:aR S b ty es n g)(c:∀i,i<n->g i=g' i):aR S b ty es n g':=by
 obtain⟨x,d,e⟩:=h;exact⟨x,d,fun i a=>(e i a).trans (c i a)⟩
theorem VR.sl{off len:Nat}(f:aR S b ty es n g)(s:off+len<=n)(i:∀j,j<len->VR S (g (off+j)) (h j)):VR S (.sl es b off len) (.lst es len h):=by
 intro w v a c;obtain⟨g',d,k⟩:=f;obtain⟨cs,e,t,l,x⟩:=a b _ d;simp only[bB]at c ⊢;obtain⟨cap,cs',ty',fr',rfl,m,_,_⟩:=c;refine⟨_,cap,rfl,m,fun y=>⟨b,es*off,rfl,dW e,fun o=>o (by simp[St.dom,d]),fun j p=>?_⟩⟩
 obtain⟨u,q,r⟩:=l (off+j) (by simp only;omega)
 refine⟨u,⟨cs,ty,(0,0),e,by rw[<-Nat.mul_add];exact q⟩,i j p w u a ?_⟩
 rw[<-k (off+j) om];exact r
theorem VR.nil:VR S .nil (.lst es 0 h):=by
 intro w v c a;simp only[bB]at a ⊢;subst a;exact⟨_,0,rfl,af _,fun b=>absurd b om⟩
def bA(n:Nat)(r:Nat->Int):AV:=.lst 2 n (fun j=>.big (r j))
def aV(n m:Nat)(A:Nat->Nat->Int):AV:=.lst 1 n (fun i=>bA m (A i))
def aX(n:Nat)(r:Nat->Int):AV:=.lst 1 n (fun j=>.int .i64 (r j))
def ax(n m:Nat)(A:Nat->Nat->Int):AV:=.lst 1 n (fun i=>aX m (A i))
def ic(S:St)(b n:Nat)(r:Nat->Int):Prop:=aR S b 50 2 n (fun j=>.big (r j))
def l8(S:St)(b n:Nat)(r:Nat->Int):Prop:=aR S b 2 1 n (fun j=>.int .i64 (r j))
structure dd(S:St)(b:Nat)(g:Nat->Nat)(n m:Nat)(A:Nat->Nat->Int):Prop where
 outer:aR S b 59 1 n (fun i=>.sl 2 (g i) 0 m)
 row:∀i,i<n->ic S (g i) m (A i)
 inj:∀i j,i<n->j<n->g i=g j->i=j
structure cT(S:St)(b:Nat)(g:Nat->Nat)(n m:Nat)(A:Nat->Nat->Int):Prop where
 outer:aR S b 29 1 n (fun i=>.sl 1 (g i) 0 m)
 row:∀i,i<n->l8 S (g i) m (A i)
 inj:∀i j,i<n->j<n->g i=g j->i=j
theorem ic.vr(h:ic S b n r):VR S (.sl 2 b 0 n) (bA n r):=VR.sl h om (fun j _=>by rw[aJ];exact VR.mf rfl)
theorem l8.vr(h:l8 S b n r):VR S (.sl 1 b 0 n) (aX n r):=VR.sl h om (fun j _=>by rw[aJ];exact VR.mf rfl)
theorem dd.vr{g:Nat->Nat}(h:dd S b g n m A):VR S (.sl 1 b 0 n) (aV n m A):=VR.sl h.outer om (fun j a=>by rw[aJ];exact(h.row j a).vr)
theorem cT.vr{g:Nat->Nat}(h:cT S b g n m A):VR S (.sl 1 b 0 n) (ax n m A):=VR.sl h.outer om (fun j a=>by rw[aJ];exact(h.row j a).vr)
theorem i64_in(b:-9223372036854775808<=a)(c:a<=9223372036854775807):IntKind.i64.wrap a=a:=IntWalk.i64_in a ⟨b,c⟩
theorem dV(h:a=n)(b:n<=4611686018427387904):IntKind.i64.wrap a=(n:Int):=by rw[h];exact i64_in om om

end Go.Proofs.YtdobfmlmenaajaaGreatDoor
