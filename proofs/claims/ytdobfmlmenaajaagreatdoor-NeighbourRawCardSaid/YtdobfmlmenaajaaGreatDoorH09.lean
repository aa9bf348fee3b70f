/-
  Lemmas for NeighbourRaw.
-/
import Derived.Test.YtdobfmlmenaajaaGreatDoorH08
namespace Go.Proofs.YtdobfmlmenaajaaGreatDoor
open Go.RowKit Tryz
open _root_.Classical renaming choose→dq
open _root_.Option renaming none→ab
open Tryz renaming prog→ah
set_option maxHeartbeats 6400000
set_option maxRecDepth 4096
set_option linter.all false
variable{x z:AV}{post:AV->St->Prop}{R:Array ResultVar}{c:Code}{a prev za:Int}{args args':List AV}{N b es f i j k m n ty:Nat}{g g' h:Nat->AV}{r:Nat->Int}{A:Nat->Nat->Int}{K:Nat->Prop}{p q:Prop}{S:St}{α:Type}
def dz.below{w w':World}(h:Below w.heap.size w w'):dz BJ BJ w w' :=
 ⟨h.os,h.tape,h.output,h.size,fun k b _=>h.block k b,fun k cs ty fr a=>⟨cs,by rw[h.block k (gA a)];exact a,rfl⟩,fun _ _ h=>h⟩
def CP(f:Nat)(args:List AV)(z:AV):Prop:=∀S,uQ f args S z
def SC{zb z:Int}(h:∀va vb B w,B<=w.heap.size->eJ w B va za->eJ w B vb zb->Calls ah f #[va,vb] w (dL w z)):CP f [.big za,.big zb] (.big z):=by
 intro S w vs d a
 match vs,a with
 | [va,vb],a =>
  simp only[aT,bs]at a;refine(h va vb w.heap.size w (ae _) a.1 a.2.1).mono ?_;rintro e w' ⟨v,rfl,b,c⟩;exact⟨v,rfl,by simpa [bs]using b,dz.below c⟩
 | [],a=>simp[aT]at a
 | [_],a=>simp[aT]at a
 | _::_::_::_,a=>simp[aT]at a
def SD{z:Int}(h:∀va B w,B<=w.heap.size->eJ w B va za->Calls ah f #[va] w (dL w z)):CP f [.big za] (.big z):=by
 intro S w vs d a
 match vs,a with
 | [va],a =>
  simp only[aT,bs]at a;refine(h va w.heap.size w (ae _) a.1).mono ?_;rintro e w' ⟨v,rfl,b,c⟩;exact⟨v,rfl,by simpa [bs]using b,dz.below c⟩
 | [],a=>simp[aT]at a
 | _::_::_,a=>simp[aT]at a
def uQ.spec(h:uQ f args S z){post:AV->St->Prop}(c:post z S):cP f args S post:=by
 intro w vs a d;refine(h w vs a d).mono ?_;rintro e w' ⟨v,rfl,g,b⟩;exact⟨v,z,S,rfl,c,g,a.frozen b,b.any _⟩
def j8(x:α):∃y:α,y=x:=⟨x,rfl⟩
noncomputable def Aw:Code->(AX->Tm->St->Prop)->Tm->St->Prop:=dq (j8 aw)
def pH:Aw=aw:=de (j8 aw)
noncomputable def EC:Array Oper->List Oper->Tm->St->(Tm->St->Prop)->Prop:=dq (j8 Gc)
def wX:EC=Gc:=de (j8 Gc)
noncomputable def L3:Array Oper->Tm->St->(Tm->St->Prop)->Prop:=dq (j8 QK)
def tq:L3=QK:=de (j8 QK)
noncomputable def GE:List Oper->Tm->St->List (Nat×eS)->(Tm->List (Nat×eS)->Prop)->Prop:=dq (j8 GJ)
def qu:GE=GJ:=de (j8 GJ)
noncomputable def Sk:List Oper->List (List Nat)->List Oper->Tm->St->(Tm->St->Prop)->Prop:=dq (j8 QH)
def EA:Sk=QH:=de (j8 QH)
noncomputable def OE:Oper->Tm->St->(AV->St->Prop)->Prop:=dq (j8 AI)
def wY:OE=AI:=de (j8 AI)
noncomputable def vj:List (Nat×eS)->Tm->St->(Tm->St->Prop)->Prop:=dq (j8 oE)
def vg:vj=oE:=de (j8 oE)
structure OA{α:Type}(x:α):Type where
structure Dep2{α β:Type}(x:α)(y:β):Type where
def aF(S:St)(K:Nat->Prop)(_u:OA K:=⟨⟩):Prop:=∀b,S b=ab->K b
def R3(f:Nat)(args:List AV)(S:St)(K:AV->St->Prop)(_u:OA K:=⟨⟩):Prop:=cP f args S K
def AN(t t':TypeId)(s x:AV)(S:St)(K:AV->St->Prop)(_u:OA K:=⟨⟩):Prop:=fU t t' s x S K
def LJ(t:TypeId)(s x:AV)(S:St)(K:AV->St->Prop)(_u:OA K:=⟨⟩):Prop:=ob t s x S K
def AK(t:TypeId)(s x:AV)(S:St)(K:AV->St->Prop)(_u:OA K:=⟨⟩):Prop:=sG t s x S K
noncomputable def AwDK(ops:Array Oper)(O:Tm)(S:St)(K:Tm->St->Prop)(_u:Dep2 ops K:=⟨⟩):Prop:=L3 ops O S K
noncomputable def AwLK(c:Code)(Q:AX->Tm->St->Prop)(O:Tm)(S:St)(_u:Dep2 c Q:=⟨⟩):Prop:=Aw (.loop c) Q O S
def aF.intro(h:∀b,S b=ab->K b):aF S K:=h
def gd(y:AV)(want:Bool)(A B:Prop):Prop:=match y with
 | .bool b=>if b=want then A else B
 | _=>False
def cd(y:AV)(A B:Prop):Prop:=match y with
 | .bool b=>if b=true then A else B
 | _=>False
def AH(c x y:AV)(K:AV->Prop):Prop:=match c with
 | .bool t=>K (if t then x else y)
 | _=>False
def QN(x:AV)(K:AV->Prop):Prop:=match x with
 | .ptr es b i=>K (.ptr es b i)
 | .pat es y=>K (.pat es y)
 | _=>False
def J6(x:AV)(i:Nat)(K:AV->Prop):Prop:=match x with
 | .tup l=>(match l[i]? with
  | some z=>K z
  | ab=>False)
 | _=>False
def Eh(f:AV)(args:List AV)(S:St)(K:AV->St->Prop):Prop:=match f with
 | .fn f l=>((11<=f/\f<270)/\f≠252/\f≠253)/\R3 f (args++l) S K
 | .mfn f l=>((11<=f/\f<270)/\f≠252/\f≠253)/\R3 f (l++args) S K
 | _=>False
def NA(f:AV)(args:List AV)(S:St)(z:AV):Prop:=match f with
 | .fn f l=>((11<=f/\f<270)/\f≠252/\f≠253)/\uQ f (args++l) S z
 | _=>False
@[congr] theorem gd_congr{y y':AV}{b:Bool}{A B:Prop}(h:y=y'):gd y b A B=gd y' b A B:=by rw[h]
@[congr] theorem cd_congr{y y':AV}{A B:Prop}(h:y=y'):cd y A B=cd y' A B:=by rw[h]
@[congr] theorem RL{c c' x x' y y':AV}{K:AV->Prop}(h:c=c')(h2:x=x')(h3:y=y'):AH c x y K=AH c' x' y' K:=by rw[h,h2,h3]
@[congr] theorem TC{x x':AV}{K:AV->Prop}(h:x=x'):QN x K=QN x' K:=by rw[h]
@[congr] theorem RO{x x':AV}{i:Nat}{K:AV->Prop}(h:x=x'):J6 x i K=J6 x' i K:=by rw[h]
@[congr] theorem QT{f f':AV}{l l':List AV}{S:St}{K:AV->St->Prop}(h:f=f')(h2:l=l'):Eh f l S K=Eh f' l' S K:=by rw[h,h2]
@[go_sem] theorem gd_tt{A B:Prop}:gd (.bool true) true A B=A:=by simp[gd]
@[go_sem] theorem gd_ff{A B:Prop}:gd (.bool false) false A B=A:=by simp[gd]
@[go_sem] theorem gd_tf{A B:Prop}:gd (.bool true) false A B=B:=by simp[gd]
@[go_sem] theorem gd_ft{A B:Prop}:gd (.bool false) true A B=B:=by simp[gd]
@[go_sem] theorem cd_t{A B:Prop}:cd (.bool true) A B=A:=by simp[cd]
@[go_sem] theorem cd_f{A B:Prop}:cd (.bool false) A B=B:=by simp[cd]
@[go_sem] theorem aPick_t{x y:AV}{K:AV->Prop}:AH (.bool true) x y K=K x:=by simp[AH]
@[go_sem] theorem aPick_f{x y:AV}{K:AV->Prop}:AH (.bool false) x y K=K y:=by simp[AH]
attribute [go_sem] QN J6 Eh NA tf
section
variable {O O':Tm} {S:St} {K1:AV->Prop} {K2:AV->St->Prop} {K3:Tm->St->Prop} {KS:St->Prop} {x x' y y':AV} {t t2 f:Nat}
@[congr] theorem Us{c:Code}{Q:AX->Tm->St->Prop}(h:O=O'):Aw c Q O S=Aw c Q O' S:=by rw[h]
@[congr] theorem Tu{ops:Array Oper}{l:List Oper}(h:O=O'):EC ops l O S K3=EC ops l O' S K3:=by rw[h]
@[congr] theorem Tw{ops:Array Oper}(h:O=O'):L3 ops O S K3=L3 ops O' S K3:=by rw[h]
@[congr] theorem Tv{l:List Oper}{pend pend':List (Nat×eS)}{H:Tm->List (Nat×eS)->Prop}(h:O=O')(hp:pend=pend'):GE l O S pend H=GE l O' S pend' H:=by rw[h,hp]
@[congr] theorem Tt{ops l:List Oper}{js:List (List Nat)}(h:O=O'):Sk ops js l O S K3=Sk ops js l O' S K3:=by rw[h]
@[congr] theorem QL{pend pend':List (Nat×eS)}(h:O=O')(hp:pend=pend'):vj pend O S K3=vj pend' O' S K3:=by rw[h,hp]
@[congr] theorem TB{o:Oper}(h:O=O'):OE o O S K2=OE o O' S K2:=by rw[h]
@[congr] theorem QS{c:Call}(h:O=O'):uI O c S K2=uI O' c S K2:=by rw[h]
@[congr] theorem OM:mU t S K2=mU t S K2:=rfl
@[congr] theorem RP(h:x=x'):kq t x S K2=kq t x' S K2:=by rw[h]
@[congr] theorem QO(h:x=x')(h2:y=y'):lr t x y S K2=lr t x' y' S K2:=by rw[h,h2]
@[congr] theorem QP(h:x=x'):pD t x S K1=pD t x' S K1:=by rw[h]
@[congr] theorem OH(h:x=x')(h2:y=y'):qh t x y S KS=qh t x' y' S KS:=by rw[h,h2]
@[congr] theorem OJ(h:x=x')(h2:y=y'):qi t x y K1=qi t x' y' K1:=by rw[h,h2]
@[congr] theorem OK(h:x=x'):qj t x f K1=qj t x' f K1:=by rw[h]
@[congr] theorem RM(h:x=x'):Ed t x K1=Ed t x' K1:=by rw[h]
@[congr] theorem RQ{op:BinOp}(h:x=x')(h2:y=y'):Gk op t x y K1=Gk op t x' y' K1:=by rw[h,h2]
@[congr] theorem TA{op:UnOp}(h:x=x'):RI op x K1=RI op x' K1:=by rw[h]
@[congr] theorem QR(h:x=x'):uH t t2 x K1=uH t t2 x' K1:=by rw[h]
@[congr] theorem OL{ps ps':List (Nat×AV)}(h:ps=ps'):rF t ps K1=rF t ps' K1:=by rw[h]
@[congr] theorem IH{n:Nat}{ps ps':List (Nat×AV)}(h:ps=ps'):dG t n ps S K2=dG t n ps' S K2:=by rw[h]
@[congr] theorem OI{lo lo' hi hi' mx mx':Option AV}(h:x=x')(h1:lo=lo')(h2:hi=hi')(h3:mx=mx'):lj t x lo hi mx K1=lj t x' lo' hi' mx' K1:=by rw[h,h1,h2,h3]
@[congr] theorem Oc(h:x=x')(h2:y=y'):fU t t2 x y S K2=fU t t2 x' y' S K2:=by rw[h,h2]
@[congr] theorem QQ(h:x=x')(h2:y=y'):sG t x y S K2=sG t x' y' S K2:=by rw[h,h2]
@[congr] theorem RK{rs:List ResultVar}{K:List AV->Prop}(h:O=O'):yi rs O S K=yi rs O' S K:=by rw[h]
@[congr] theorem RN{rs:List ResultVar}{e:AX}(h:O=O'):Eg rs K2 e O S=Eg rs K2 e O' S:=by rw[h]
@[congr] theorem Q8{args args':List AV}{z:AV}(h:args=args'):uQ f args S z=uQ f args' S z:=by rw[h]
end
section
variable {Q:AX->Tm->St->Prop} {O:Tm} {S:St} {x y c:Code} {id i:Nat} {ops:Array Oper} {K:Tm->St->Prop} {H:AV->St->Prop} {l:List Oper} {o:Oper}
@[go_sem ↓] theorem aw_skip:Aw .skip Q O S=Q .normal O S:=by rw[pH,aw]
@[go_sem ↓] theorem Ts:Aw (.region id ops false) Q O S=EC ops ops.toList O S (Q .normal):=by rw[pH,wX,aw]
@[go_sem ↓] theorem aw_draw:Aw (.region id ops true) Q O S=AwDK ops O S (Q .normal):=by unfold AwDK;rw[pH,tq,aw]
@[go_sem ↓] theorem aw_lp:Aw (.loop c) Q O S=AwLK c Q O S:=rfl
@[go_sem ↓] theorem N2:Aw (.seq x y) Q O S=Aw x (AX.seq (Aw y Q) Q) O S:=by rw[pH,aw]
@[go_sem ↓] theorem aw_block:Aw (.block id c) Q O S=Aw c (AX.blk id Q) O S:=by rw[pH,aw]
@[go_sem ↓] theorem aw_exit:Aw (.exit id) Q O S=Q (.exit id) O S:=by rw[pH,aw]
@[go_sem ↓] theorem aw_scope:Aw (.scope x) Q O S=Aw x Q O S:=by rw[pH,aw]
@[go_sem ↓] theorem aw_label{l:Nat}:Aw (.label l) Q O S=Q .normal O S:=by rw[pH,aw]
@[go_sem ↓] theorem aw_ret:Aw .ret Q O S=Q .ret O S:=by rw[pH,aw]
@[go_sem ↓] theorem zJ:AX.seq K Q .normal=K:=rfl
@[go_sem ↓] theorem seq_ret:AX.seq K Q .ret=Q .ret:=rfl
@[go_sem ↓] theorem seq_exit:AX.seq K Q (.exit i)=Q (.exit i):=rfl
@[go_sem ↓] theorem Tp:AX.blk id Q .normal=Q .normal:=rfl
@[go_sem ↓] theorem blk_ret:AX.blk id Q .ret=Q .ret:=rfl
@[go_sem ↓] theorem NZ:AX.blk id Q (.exit i)=if i=id then Q .normal else Q (.exit i):=rfl
@[go_sem ↓] theorem awL_nil:EC ops [] O S K=K O S:=by rw[wX,Gc]
def aH(I:Tm->St->Prop)(μ:Tm->St->Nat)(a:I O S)(b:∀O S,I O S->Aw c (AX.seq (fun O' S'=>I O' S'/\μ O' S' < μ O S) Q) O S):Aw (.loop c) Q O S:=by
 rw[pH]at *;exact⟨I,μ,a,b⟩
end
def PX{b c:Bool}:((b=c->p)/\(b=!c->q))=if b=c then p else q:=by
 cases b<;>cases c<;>simp
def Ns{b:Bool}:((b=true->p)/\(b=false->q))=if b=true then p else q:=by
 cases b<;>simp
@[go_sem ↓] theorem IA{e:Operand}{x y:Code}{Q:AX->Tm->St->Prop}{O:Tm}{S:St}:Aw (.cond e x y) Q O S=cd (ev O e) (Aw x Q O S) (Aw y Q O S):=by
 rw[pH,aw];unfold cd
 cases ev O e<;>first|rfl|exact Ns
@[go_sem ↓] theorem awL_go{ops:Array Oper}{l:List Oper}{O:Tm}{S:St}{K:Tm->St->Prop}{o:Oper}:EC ops (o::l) O S K=(match o.guard with
  | ab=>OE o O S (fun z S'=>EC ops l (O.put o.dst z) S' K)
  | some (j,want)=>gd (EE ops O j) want (OE o O S (fun z S'=>EC ops l (O.put o.dst z) S' K)) (EC ops l (O.put o.dst .any) S K)):=by
 rw[wX,wY,Gc]
 cases o.guard with
 | none=>rfl
 | some p =>
  obtain⟨j,want⟩:=p;simp only[gd]
  cases EE ops O j<;>first|rfl|exact PX
@[go_sem ↓] theorem aCall_go{O:Tm}{c:Call}{S:St}{K:AV->St->Prop}:uI O c S K=(match c.callee with
 | .value f=>Eh (ev O f) (c.args.toList.map (ev O)) S K
 | .builtin .len=>(match c.args.toList,c.argTypes.toList with
  | [x],[t]=>Ed t (ev O x) (fun z=>K z S)
  | _,_=>False)
 | .builtin .max=>(match c.args.toList with
  | [x,y]=>Ob (ev O x) (ev O y) (fun z=>K z S)
  | _=>False)
 | .builtin .append=>(match c.args.toList,c.argTypes.toList with
  | [s,x],[t,t']=>if t'=3 then LJ t (ev O s) (ev O x) S K else AN t t' (ev O s) (ev O x) S K
  | _,_=>False)
 | .builtin .copy=>(match c.args.toList,c.argTypes.toList with
  | [s,x],[t,_]=>AK t (ev O s) (ev O x) S K
  | _,_=>False)
 | _=>False):=rfl
@[go_sem ↓] theorem AOp_go{o:Oper}{O:Tm}{S:St}{K:AV->St->Prop}:OE o O S K=(match o.op with
  | .move x=>K (ev O x) S
  | .assign x=>K (ev O x) S
  | .pick c x y=>AH (ev O c) (ev O x) (ev O y) (fun z=>K z S)
  | .alloc t=>mU t S K
  | .box t x=>kq t (ev O x) S K
  | .build t ps=>rF t (ps.toList.map fun p=>(p.1,ev O p.2)) (fun z=>K z S)
  | .buildSlice t n ps=>dG t n (ps.toList.map fun p=>(p.1,ev O p.2)) S K
  | .load t x=>pD t (ev O x) S (fun z=>K z S)
  | .store t x y=>qh t (ev O x) (ev O y) S (fun S'=>K .any S')
  | .nilCheck x=>QN (ev O x) (fun z=>K z S)
  | .binOp op t x y _=>Gk op t (ev O x) (ev O y) (fun z=>K z S)
  | .unOp op _ x=>RI op (ev O x) (fun z=>K z S)
  | .convert s d x=>uH s d (ev O x) (fun z=>K z S)
  | .makeFunc (.func f) fi cs=>tf f (fi.toList.map (ev O)) (cs.toList.map (ev O)) (fun z=>K z S)
  | .makeSlice t x y=>lr t (ev O x) (ev O y) S K
  | .slice t x lo hi mx=>lj t (ev O x) (lo.map (ev O)) (hi.map (ev O)) (mx.map (ev O)) (fun z=>K z S)
  | .fieldAddr t x f=>qj t (ev O x) f (fun z=>K z S)
  | .indexAddr t x i=>qi t (ev O x) (ev O i) (fun z=>K z S)
  | .index t x i=>Ee t (ev O x) (ev O i) (fun z=>K z S)
  | .extract x i=>J6 (ev O x) i (fun z=>K z S)
  | .call c=>uI O c S K
  | _=>False):=by rw[wY,AI]<;>rfl
def iw{fn:Func}(d:ah.funcs[f]? = some fn)(e:fn.body=some c){args:List AV}{S:St}{post:AV->St->Prop}(N:Nat)(g:fn.ntmps=N)(b:jm N c=true)(a:args.length<=N)
  (h:Aw c (Eg fn.results.toList post) (Ky args) S):cP f args S post:=oN d e N g b a (by rw[pH]at h;exact h)
def Cb{fn:Func}(e:ah.funcs[f]? = some fn)(g:fn.body=some c){args:List AV}{S:St}{post:AV->St->Prop}(N:Nat)(i:fn.ntmps=N)(b:jm N c=true)(a:args.length<=N)(d:fn.results.size≠0)
  (h:Aw c (Eg fn.results.toList post) (Ky args) S):cP f args S post:=Dl e g N i b a d (by rw[pH]at h;exact h)
@[go_sem] theorem Pt{O:Tm}{d:Nat}{x:AV}:O.put (some d) x d=x:=by simp[Tm.put_eq]
@[go_sem] theorem MV{O:Tm}{d t:Nat}{x:AV}(h:t≠d):O.put (some d) x t=O t:=by simp[Tm.put_eq,h]
@[go_sem] theorem MU{O:Tm}{x:AV}:O.put ab x=O:=by rw[Tm.put_eq]
noncomputable def OF(k:Nat):List AV->Tm
 | []=>fun _=>.any
 | a::l=>(OF (k+1) l).put (some k) a
theorem MC:∀(l:List AV) (k t:Nat),OF k l t=if k<=t then l.getD (t-k) .any else .any
 | [],k,t=>by simp[OF]
 | a::l,k,t=>by
  simp only[OF,Tm.put_eq];by_cases e:t=k
  .subst e;simp
  .rw[af e,MC l (k+1) t];by_cases h:k<=t
   .rw[ai om,ai h,(om:t-k=(t-(k+1))+1)];simp
   .rw[af om,af h]
def lA(l:List AV):Ky l=OF 0 l:=by funext t;rw[MC];simp[Ky]
def i9{fn:Func}(g:ah.funcs[f]? = some fn)(i:fn.ntmps=N)(e:fn.results=R)
  (h:Aw c (Eg R.toList post) (OF 0 args) S) (j:fn.body=some c:=by exact rfl) (b:jm N c=true:=by kernel_rfl) (a:args.length<=N:=by simp) (d:R.size≠0:=by simp):cP f args S post :=
 Cb g j N i b a (by rw[e];exact d) (by rw[e,lA];exact h)
@[go_sem] theorem tmP_nil{k:Nat}:OF k []=fun _=>.any:=rfl
@[go_sem] theorem tmP_cons{k:Nat}{a:AV}{l:List AV}:OF k (a::l)=(OF (k+1) l).put (some k) a:=rfl
@[go_sem ↓] theorem alloc50{S:St}{K:AV->St->Prop}:mU 50 S K=aF S (fun b=>K (.ptr 2 b 0) (S.upd b ⟨50,2,1,fun _=>.big 0⟩)):=rfl
@[go_sem ↓] theorem alloc52{S:St}{K:AV->St->Prop}:mU 52 S K=aF S (fun b=>K (.ptr 1 b 0) (S.upd b ⟨52,1,1,fun _=>.nil⟩)):=rfl
@[go_sem ↓] theorem alloc4{S:St}{K:AV->St->Prop}:mU 4 S K=aF S (fun b=>K (.ptr 1 b 0) (S.upd b ⟨4,1,1,fun _=>.bool false⟩)):=rfl
@[go_sem ↓] theorem alloc167{S:St}{K:AV->St->Prop}:mU 167 S K=aF S (fun b=>K (.ptr 2 b 0) (S.upd b ⟨167,2,2,fun _=>.big 0⟩)):=rfl
@[go_sem] theorem cn{S:St}{b:Nat}{X:eS}:S.upd b X b=some X:=by simp[St.upd]
@[go_sem] theorem aO{S:St}{b c:Nat}{X:eS}(h:c≠b):S.upd b X c=S c:=by simp[St.upd,h]
@[go_sem] theorem slots_2:eY 2=some (1,1):=rfl
@[go_sem] theorem slots_3:eY 3=some (1,1):=rfl
@[go_sem] theorem slots_4:eY 4=some (1,1):=rfl
@[go_sem] theorem slots_5:eY 5=some (1,1):=rfl
@[go_sem] theorem slots_22:eY 22=some (1,1):=rfl
@[go_sem] theorem slots_25:eY 25=some (1,1):=rfl
@[go_sem] theorem slots_28:eY 28=some (1,1):=rfl
@[go_sem] theorem slots_29:eY 29=some (1,1):=rfl
@[go_sem] theorem slots_34:eY 34=some (1,1):=rfl
@[go_sem] theorem slots_48:eY 48=some (1,1):=rfl
@[go_sem] theorem Ry:gD 50 0=ab:=rfl
@[go_sem] theorem Rx:gD 50 1=ab:=rfl
@[go_sem] theorem elemT_48:dJ 48=ab:=rfl
@[go_sem] theorem slots_41:eY 41=some (1,1):=rfl
@[go_sem] theorem slots_52:eY 52=some (1,1):=rfl
@[go_sem] theorem slots_59:eY 59=some (1,1):=rfl
@[go_sem] theorem slots_97:eY 97=some (1,1):=rfl
@[go_sem] theorem Uh:eY 146=some (1,1):=rfl
@[go_sem] theorem Ug:eY 158=some (1,1):=rfl
@[go_sem] theorem Uc:eY 192=some (1,1):=rfl
@[go_sem] theorem T9:eY 216=some (1,1):=rfl
@[go_sem] theorem slots_50:eY 50=some (2,1):=rfl
@[go_sem] theorem Ue:eY 167=some (2,2):=rfl
@[go_sem] theorem Ub:eY 195=some (2,2):=rfl
@[go_sem] theorem Ua:eY 197=some (2,7):=rfl
@[go_sem] theorem slots_24:eY 24=some (1,4):=rfl
@[go_sem] theorem slots_27:eY 27=some (1,6):=rfl
@[go_sem] theorem Ui:eY 107=some (1,2):=rfl
@[go_sem] theorem Uf:eY 160=some (1,4):=rfl
@[go_sem] theorem Ud:eY 183=some (1,2):=rfl
@[go_sem] theorem T8:eY 218=some (1,2):=rfl
@[go_sem] theorem elemT_22:dJ 22=some 41:=rfl
@[go_sem] theorem elemS_41:bZ 41=1:=rfl
@[go_sem] theorem elemT_28:dJ 28=some 29:=rfl
@[go_sem] theorem elemT_29:dJ 29=some 2:=rfl
@[go_sem] theorem elemT_52:dJ 52=some 59:=rfl
@[go_sem] theorem elemT_59:dJ 59=some 50:=rfl
@[go_sem] theorem Up:dJ 146=some 3:=rfl
@[go_sem] theorem Uo:dJ 192=some 52:=rfl
@[go_sem] theorem Un:dJ 216=some 59:=rfl
@[go_sem] theorem elemS_2:bZ 2=1:=rfl
@[go_sem] theorem elemS_3:bZ 3=1:=rfl
@[go_sem] theorem elemS_29:bZ 29=1:=rfl
@[go_sem] theorem elemS_59:bZ 59=1:=rfl
@[go_sem] theorem elemS_50:bZ 50=2:=rfl
@[go_sem] theorem elemS_52:bZ 52=1:=rfl
@[go_sem] theorem make_28{k k':IntKind}{n n':Int}{S:St}{K:AV->St->Prop}:lr 28 (.int k n) (.int k' n') S K=((AV.int k n=.int k' n')/\(0<=n/\n<=1099511627776)/\aF S (fun b=>K (.sl 1 b 0 n.toNat) (S.upd b ⟨29,1,n.toNat,fun _=>.nil⟩))):=by
 simp only[lr,dJ,gG,bZ,kc];rfl
@[go_sem] theorem make_29{k k':IntKind}{n n':Int}{S:St}{K:AV->St->Prop}:lr 29 (.int k n) (.int k' n') S K=((AV.int k n=.int k' n')/\(0<=n/\n<=1099511627776)/\aF S (fun b=>K (.sl 1 b 0 n.toNat) (S.upd b ⟨2,1,n.toNat,fun _=>.int .i64 0⟩))):=by
 simp only[lr,dJ,gG,bZ,kc];rfl
@[go_sem] theorem make_52{k k':IntKind}{n n':Int}{S:St}{K:AV->St->Prop}:lr 52 (.int k n) (.int k' n') S K=((AV.int k n=.int k' n')/\(0<=n/\n<=1099511627776)/\aF S (fun b=>K (.sl 1 b 0 n.toNat) (S.upd b ⟨59,1,n.toNat,fun _=>.nil⟩))):=by
 simp only[lr,dJ,gG,bZ,kc];rfl
@[go_sem] theorem make_59{k k':IntKind}{n n':Int}{S:St}{K:AV->St->Prop}:lr 59 (.int k n) (.int k' n') S K=((AV.int k n=.int k' n')/\(0<=n/\n<=1099511627776)/\aF S (fun b=>K (.sl 2 b 0 n.toNat) (S.upd b ⟨50,2,n.toNat,fun _=>.big 0⟩))):=by
 simp only[lr,dJ,gG,bZ,kc];rfl
@[go_sem] theorem make_146{k k':IntKind}{n n':Int}{S:St}{K:AV->St->Prop}:lr 146 (.int k n) (.int k' n') S K=((AV.int k n=.int k' n')/\(0<=n/\n<=1099511627776)/\aF S (fun b=>K (.sl 1 b 0 n.toNat) (S.upd b ⟨3,1,n.toNat,fun _=>.int .i64 0⟩))):=by
 simp only[lr,dJ,gG,bZ,kc];rfl
@[go_sem] theorem make_216{k k':IntKind}{n n':Int}{S:St}{K:AV->St->Prop}:lr 216 (.int k n) (.int k' n') S K=((AV.int k n=.int k' n')/\(0<=n/\n<=1099511627776)/\aF S (fun b=>K (.sl 1 b 0 n.toNat) (S.upd b ⟨59,1,n.toNat,fun _=>.nil⟩))):=by
 simp only[lr,dJ,gG,bZ,kc];rfl
@[go_sem] theorem RF:gD 24 0=some (1,0):=rfl
@[go_sem] theorem RE:gD 24 1=some (1,1):=rfl
@[go_sem] theorem RD:gD 24 2=some (1,2):=rfl
@[go_sem] theorem RC:gD 24 3=some (1,3):=rfl
@[go_sem] theorem RB:gD 27 0=some (1,0):=rfl
@[go_sem] theorem RA:gD 27 1=some (1,4):=rfl
@[go_sem] theorem Rz:gD 27 2=some (1,5):=rfl
@[go_sem] theorem Qk:gD 107 0=some (1,0):=rfl
@[go_sem] theorem Qj:gD 107 1=some (1,1):=rfl
@[go_sem] theorem Qi:gD 160 0=some (1,0):=rfl
@[go_sem] theorem Qh:gD 160 1=some (1,1):=rfl
@[go_sem] theorem Qg:gD 160 2=some (1,2):=rfl
@[go_sem] theorem Qf:gD 160 3=some (1,3):=rfl
@[go_sem] theorem Qe:gD 167 0=some (2,0):=rfl
@[go_sem] theorem Qd:gD 167 1=some (2,1):=rfl
@[go_sem] theorem Qc:gD 183 0=some (1,0):=rfl
@[go_sem] theorem Qb:gD 183 1=some (1,1):=rfl
@[go_sem] theorem Qa:gD 197 0=some (2,0):=rfl
@[go_sem] theorem P9:gD 197 1=some (2,1):=rfl
@[go_sem] theorem P8:gD 197 2=some (2,2):=rfl
@[go_sem] theorem P7:gD 197 3=some (2,3):=rfl
@[go_sem] theorem P6:gD 197 4=some (2,5):=rfl
@[go_sem] theorem P5:gD 218 0=some (1,0):=rfl
@[go_sem] theorem P4:gD 218 1=some (1,1):=rfl
@[go_sem] theorem kindT_2:tZ 2=some .i64:=rfl
@[go_sem] theorem kindT_3:tZ 3=some .i64:=rfl
@[go_sem] theorem kindT_5:tZ 5=some .u8:=rfl
@[go_sem] theorem kindT_34:tZ 34=some .i64:=rfl
@[go_sem] theorem kindT_97:tZ 97=some .u64:=rfl
@[go_sem] theorem srcT_2:Bo 2=true:=rfl
@[go_sem] theorem srcT_3:Bo 3=true:=rfl
@[go_sem] theorem srcT_5:Bo 5=true:=rfl
@[go_sem] theorem srcT_25:Bo 25=true:=rfl
@[go_sem] theorem srcT_41:Bo 41=true:=rfl
@[go_sem] theorem srcT_97:Bo 97=true:=rfl
@[go_sem] theorem box_2{x:AV}{S:St}{K:AV->St->Prop}:kq 2 x S K=(eF 1 x/\aF S (fun b=>K (.ptr 1 b 0) (S.upd b ⟨2,1,1,fun _=>x⟩))):=rfl
@[go_sem] theorem box_3{x:AV}{S:St}{K:AV->St->Prop}:kq 3 x S K=(eF 1 x/\aF S (fun b=>K (.ptr 1 b 0) (S.upd b ⟨3,1,1,fun _=>x⟩))):=rfl
@[go_sem] theorem box_4{x:AV}{S:St}{K:AV->St->Prop}:kq 4 x S K=(eF 1 x/\aF S (fun b=>K (.ptr 1 b 0) (S.upd b ⟨4,1,1,fun _=>x⟩))):=rfl
@[go_sem] theorem box_5{x:AV}{S:St}{K:AV->St->Prop}:kq 5 x S K=(eF 1 x/\aF S (fun b=>K (.ptr 1 b 0) (S.upd b ⟨5,1,1,fun _=>x⟩))):=rfl
@[go_sem] theorem box_22{x:AV}{S:St}{K:AV->St->Prop}:kq 22 x S K=(eF 1 x/\aF S (fun b=>K (.ptr 1 b 0) (S.upd b ⟨22,1,1,fun _=>x⟩))):=rfl
@[go_sem] theorem box_25{x:AV}{S:St}{K:AV->St->Prop}:kq 25 x S K=(eF 1 x/\aF S (fun b=>K (.ptr 1 b 0) (S.upd b ⟨25,1,1,fun _=>x⟩))):=rfl
@[go_sem] theorem box_28{x:AV}{S:St}{K:AV->St->Prop}:kq 28 x S K=(eF 1 x/\aF S (fun b=>K (.ptr 1 b 0) (S.upd b ⟨28,1,1,fun _=>x⟩))):=rfl
@[go_sem] theorem box_29{x:AV}{S:St}{K:AV->St->Prop}:kq 29 x S K=(eF 1 x/\aF S (fun b=>K (.ptr 1 b 0) (S.upd b ⟨29,1,1,fun _=>x⟩))):=rfl
@[go_sem] theorem box_34{x:AV}{S:St}{K:AV->St->Prop}:kq 34 x S K=(eF 1 x/\aF S (fun b=>K (.ptr 1 b 0) (S.upd b ⟨34,1,1,fun _=>x⟩))):=rfl
@[go_sem] theorem box_41{x:AV}{S:St}{K:AV->St->Prop}:kq 41 x S K=(eF 1 x/\aF S (fun b=>K (.ptr 1 b 0) (S.upd b ⟨41,1,1,fun _=>x⟩))):=rfl
@[go_sem] theorem box_52{x:AV}{S:St}{K:AV->St->Prop}:kq 52 x S K=(eF 1 x/\aF S (fun b=>K (.ptr 1 b 0) (S.upd b ⟨52,1,1,fun _=>x⟩))):=rfl
@[go_sem] theorem box_59{x:AV}{S:St}{K:AV->St->Prop}:kq 59 x S K=(eF 1 x/\aF S (fun b=>K (.ptr 1 b 0) (S.upd b ⟨59,1,1,fun _=>x⟩))):=rfl
@[go_sem] theorem box_97{x:AV}{S:St}{K:AV->St->Prop}:kq 97 x S K=(eF 1 x/\aF S (fun b=>K (.ptr 1 b 0) (S.upd b ⟨97,1,1,fun _=>x⟩))):=rfl
@[go_sem] theorem box_146{x:AV}{S:St}{K:AV->St->Prop}:kq 146 x S K=(eF 1 x/\aF S (fun b=>K (.ptr 1 b 0) (S.upd b ⟨146,1,1,fun _=>x⟩))):=rfl
@[go_sem] theorem box_158{x:AV}{S:St}{K:AV->St->Prop}:kq 158 x S K=(eF 1 x/\aF S (fun b=>K (.ptr 1 b 0) (S.upd b ⟨158,1,1,fun _=>x⟩))):=rfl
@[go_sem] theorem box_192{x:AV}{S:St}{K:AV->St->Prop}:kq 192 x S K=(eF 1 x/\aF S (fun b=>K (.ptr 1 b 0) (S.upd b ⟨192,1,1,fun _=>x⟩))):=rfl
@[go_sem] theorem box_216{x:AV}{S:St}{K:AV->St->Prop}:kq 216 x S K=(eF 1 x/\aF S (fun b=>K (.ptr 1 b 0) (S.upd b ⟨216,1,1,fun _=>x⟩))):=rfl
@[go_sem] theorem box_50{x:AV}{S:St}{K:AV->St->Prop}:kq 50 x S K=(eF 2 x/\aF S (fun b=>K (.ptr 2 b 0) (S.upd b ⟨50,2,1,fun _=>x⟩))):=rfl
@[go_sem] theorem box_167{l:List AV}{S:St}{K:AV->St->Prop}:kq 167 (.agg l) S K=(l.length=2/\(∀z∈l,eF 2 z)/\aF S (fun b=>K (.ptr 2 b 0) (S.upd b ⟨167,2,2,fun j=>l.getD j .any⟩))):=rfl
@[go_sem] theorem box_195{l:List AV}{S:St}{K:AV->St->Prop}:kq 195 (.agg l) S K=(l.length=2/\(∀z∈l,eF 2 z)/\aF S (fun b=>K (.ptr 2 b 0) (S.upd b ⟨195,2,2,fun j=>l.getD j .any⟩))):=rfl
@[go_sem] theorem box_197{l:List AV}{S:St}{K:AV->St->Prop}:kq 197 (.agg l) S K=(l.length=7/\(∀z∈l,eF 2 z)/\aF S (fun b=>K (.ptr 2 b 0) (S.upd b ⟨197,2,7,fun j=>l.getD j .any⟩))):=rfl
@[go_sem] theorem box_24{l:List AV}{S:St}{K:AV->St->Prop}:kq 24 (.agg l) S K=(l.length=4/\(∀z∈l,eF 1 z)/\aF S (fun b=>K (.ptr 1 b 0) (S.upd b ⟨24,1,4,fun j=>l.getD j .any⟩))):=rfl
@[go_sem] theorem box_27{l:List AV}{S:St}{K:AV->St->Prop}:kq 27 (.agg l) S K=(l.length=6/\(∀z∈l,eF 1 z)/\aF S (fun b=>K (.ptr 1 b 0) (S.upd b ⟨27,1,6,fun j=>l.getD j .any⟩))):=rfl
@[go_sem] theorem box_107{l:List AV}{S:St}{K:AV->St->Prop}:kq 107 (.agg l) S K=(l.length=2/\(∀z∈l,eF 1 z)/\aF S (fun b=>K (.ptr 1 b 0) (S.upd b ⟨107,1,2,fun j=>l.getD j .any⟩))):=rfl
@[go_sem] theorem box_160{l:List AV}{S:St}{K:AV->St->Prop}:kq 160 (.agg l) S K=(l.length=4/\(∀z∈l,eF 1 z)/\aF S (fun b=>K (.ptr 1 b 0) (S.upd b ⟨160,1,4,fun j=>l.getD j .any⟩))):=rfl
@[go_sem] theorem box_183{l:List AV}{S:St}{K:AV->St->Prop}:kq 183 (.agg l) S K=(l.length=2/\(∀z∈l,eF 1 z)/\aF S (fun b=>K (.ptr 1 b 0) (S.upd b ⟨183,1,2,fun j=>l.getD j .any⟩))):=rfl
@[go_sem] theorem box_218{l:List AV}{S:St}{K:AV->St->Prop}:kq 218 (.agg l) S K=(l.length=2/\(∀z∈l,eF 1 z)/\aF S (fun b=>K (.ptr 1 b 0) (S.upd b ⟨218,1,2,fun j=>l.getD j .any⟩))):=rfl
@[go_sem] theorem bs_59{x:AV}{S:St}{K:AV->St->Prop}:dG 59 1 [(0,x)] S K=(eF 2 x/\aF S (fun b=>K (.sl 2 b 0 1) (S.upd b ⟨50,2,1,fun j=>[x].getD j .any⟩))):=by
 simp only[dG,dJ,bZ];simp[eT,gG,aF]
@[go_sem] theorem hbs_59{x z:AV}:eV 59 1 [(0,x)] z=(eF 2 x/\z=.lst 2 1 (fun j=>[x].getD j .any)):=by
 simp only[eV,dJ,bZ];simp[eT,gG]
@[go_sem] theorem bs_52{x:AV}{S:St}{K:AV->St->Prop}:dG 52 1 [(0,x)] S K=(eF 1 x/\aF S (fun b=>K (.sl 1 b 0 1) (S.upd b ⟨59,1,1,fun j=>[x].getD j .any⟩))):=by
 simp only[dG,dJ,bZ];simp[eT,gG,aF]
@[go_sem] theorem hbs_52{x z:AV}:eV 52 1 [(0,x)] z=(eF 1 x/\z=.lst 1 1 (fun j=>[x].getD j .any)):=by
 simp only[eV,dJ,bZ];simp[eT,gG]
@[go_sem] theorem bs_29{x:AV}{S:St}{K:AV->St->Prop}:dG 29 1 [(0,x)] S K=(eF 1 x/\aF S (fun b=>K (.sl 1 b 0 1) (S.upd b ⟨2,1,1,fun j=>[x].getD j .any⟩))):=by
 simp only[dG,dJ,bZ];simp[eT,gG,aF]
@[go_sem] theorem hbs_29{x z:AV}:eV 29 1 [(0,x)] z=(eF 1 x/\z=.lst 1 1 (fun j=>[x].getD j .any)):=by
 simp only[eV,dJ,bZ];simp[eT,gG]
@[go_sem] theorem bs_28{x:AV}{S:St}{K:AV->St->Prop}:dG 28 1 [(0,x)] S K=(eF 1 x/\aF S (fun b=>K (.sl 1 b 0 1) (S.upd b ⟨29,1,1,fun j=>[x].getD j .any⟩))):=by
 simp only[dG,dJ,bZ];simp[eT,gG,aF]
@[go_sem] theorem hbs_28{x z:AV}:eV 28 1 [(0,x)] z=(eF 1 x/\z=.lst 1 1 (fun j=>[x].getD j .any)):=by
 simp only[eV,dJ,bZ];simp[eT,gG]
@[go_sem] theorem bs_146{x:AV}{S:St}{K:AV->St->Prop}:dG 146 1 [(0,x)] S K=(eF 1 x/\aF S (fun b=>K (.sl 1 b 0 1) (S.upd b ⟨3,1,1,fun j=>[x].getD j .any⟩))):=by
 simp only[dG,dJ,bZ];simp[eT,gG,aF]
@[go_sem] theorem hbs_146{x z:AV}:eV 146 1 [(0,x)] z=(eF 1 x/\z=.lst 1 1 (fun j=>[x].getD j .any)):=by
 simp only[eV,dJ,bZ];simp[eT,gG]
@[go_sem] theorem bs_216{x:AV}{S:St}{K:AV->St->Prop}:dG 216 1 [(0,x)] S K=(eF 1 x/\aF S (fun b=>K (.sl 1 b 0 1) (S.upd b ⟨59,1,1,fun j=>[x].getD j .any⟩))):=by
 simp only[dG,dJ,bZ];simp[eT,gG,aF]
@[go_sem] theorem hbs_216{x z:AV}:eV 216 1 [(0,x)] z=(eF 1 x/\z=.lst 1 1 (fun j=>[x].getD j .any)):=by
 simp only[eV,dJ,bZ];simp[eT,gG]
attribute [go_sem] ev Rt pD qh qi qj Ed Gk RI uH rF eF Eg yi qZ

attribute [go_sem] EG iV kc yN aQ aS cC kd aD cU lN wK wN lO forall_const
 cA List.toList_toArray cq fR
attribute [go_sem] eq_self true_implies cB aY Bool.true_eq_false c8 ci dE exists_eq_left' exists_eq_left exists_and_left and_assoc Ve false_or false_and Fr UG Mb List.drop_succ_cons yR List.isEmpty_nil List.isEmpty_cons bJ pI Br Bool.and_self Bi List.filterMap_nil
 BQ qS Vq Bool.and_true cF ae exists_const
section
variable {ops:Array Oper} {l:List Oper} {O:Tm} {S:St} {K:Tm->St->Prop} {o:Oper} {pend:List (Nat×eS)} {H:Tm->List (Nat×eS)->Prop} {z:AV} {d:Nat} {X:eS} {r:List (Nat×eS)}
def bE(q:Nat)(a:xF ops q [] false=true)(h:GE (ops.toList.take q) O S [] (fun O' pend=>if pend.isEmpty then EC ops (ops.toList.drop q) O' S K else vj pend (Ao (qb (ops.toList.take q)) O') S (fun O S=>EC ops (ops.toList.drop q) O S K))):L3 ops O S K:=by
 rw[tq];rw[qu,wX,vg]at h;refine bF ⟨q,[],false,_,a,h,fun O' p b=>?_⟩;split at b
 .rename_i e;exact bF ⟨e,bF ⟨rfl,b⟩⟩
 .exact bH ⟨rfl,_,b,fun O S h=>⟨trivial,bF ⟨rfl,h⟩⟩⟩
def g9(q:Nat)(a:xF ops q [] true=true)(h:GE (ops.toList.take q) O S [] (fun O' pend=>pend.isEmpty=true/\EC ops (ops.toList.drop q) O' S K)):L3 ops O S K:=by
 rw[tq];rw[qu,wX]at h;exact bF ⟨q,[],true,_,a,h,fun O' p b=>bF ⟨b.1,bF ⟨rfl,b.2⟩⟩⟩
def fH(q:Nat)(js:List (List Nat))(a:xF ops q js false=true)(h:GE (ops.toList.take q) O S [] (fun O' pend=>pend.isEmpty=true/\Sk ops.toList js (ops.toList.drop q) O' S K)):L3 ops O S K:=by
 rw[tq];rw[qu,EA]at h;exact bF ⟨q,js,false,_,a,h,fun O' p b=>bF ⟨b.1,bH b.2⟩⟩
def pB(q:Nat)(js:List (List Nat))(a:xF ops q js false=true)(h:GE (ops.toList.take q) O S [] (fun O' pend=>vj pend (Ao (qb (ops.toList.take q)) O') S (fun O S=>mR ops.toList O S (DI js)/\Sk ops.toList js (ops.toList.drop q) O S K))):L3 ops O S K:=by
 rw[tq];rw[qu,EA,vg]at h;exact bF ⟨q,js,false,_,a,h,fun O' p b=>bH ⟨rfl,_,b,fun O S h=>⟨h.1,bH h.2⟩⟩⟩
def Bj(ops:Array Oper)(o:Oper)(O:Tm)(S:St)(K:Tm->St->Prop):Prop:=match o.guard with
 | ab=>OE o O S (fun z S'=>K (O.put o.dst z) S')
 | some (j,want)=>(match EE ops O j with
  | .bool b=>(b=want->OE o O S (fun z S'=>K (O.put o.dst z) S'))/\(b=!want->K (O.put o.dst .any) S)
  | _=>False)
def stI(ops:Array Oper)(P:(Nat->Bool)->Tm->St->Prop):List Oper->Nat->Prop
 | [],_=>True
 | o::r,i=>(∀L O S,P L O S->L i=false->(aft o).all L=true->Bj ops o O S (P (fun k=>if k=i then true else L k)))/\stI ops P r (i+1)
theorem Jn{ops:Array Oper}{P:(Nat->Bool)->Tm->St->Prop}:∀(l:List Oper) (i j:Nat) (o:Oper),stI ops P l i->l[j]? = some o->∀L O S,P L O S->L (i+j)=false->(∀k∈aft o,L k=true)->Ef ops o O S (P (fun k=>if k=i+j then true else L k))
 | [],i,j,o,_,h=>by simp at h
 | p::r,i,0,o,h,a=>by
  simp only[c8,eU]at a;subst a;intro L O S b c d;have:=h.1 L O S b c (aG.2 d);unfold Bj at this;rw[wY]at this;exact this
 | p::r,i,j+1,o,h,a=>by
  rw[ci]at a;have:=Jn r (i+1) j o h.2 a;rw[(om:i+1+j=i+(j+1))]at this
  exact this
def CH(P:(Nat->Bool)->Tm->St->Prop)(a:CK ops=true)(b:P (fun _=>false) O S)(c:stI ops P ops.toList 0)(d:∀L O S,P L O S->(∀i,i<ops.toList.length->L i=true)->K O S):L3 ops O S K:=by
 rw[tq];refine bH ⟨P,a,b,fun i o e=>?_,fun L O S f g=>d L O S f (fun i h=>g i (by simpa using h))⟩
 have:=Jn ops.toList 0 i o c (by simpa using e)
 simp only[aD]at this;exact this
@[go_sem ↓] theorem awT_nil{os:List Oper}{js:List (List Nat)}:Sk os js [] O S K=K O S:=by rw[EA,QH]
@[go_sem ↓] theorem awT_go{os:List Oper}{js:List (List Nat)}:Sk os js (o::l) O S K=OE o O S (fun z S'=>mR os (O.put o.dst z) S' (DI js)/\Sk os (Nr js) l (O.put o.dst z) S' K):=by rw[EA,wY,QH]
@[go_sem] theorem jsHd_c{a:List Nat}{l:List (List Nat)}:DI (a::l)=a:=rfl
@[go_sem] theorem jsNx_1{a:List Nat}:Nr [a]=[a]:=rfl
@[go_sem] theorem jsNx_2{a b:List Nat}{l:List (List Nat)}:Nr (a::b::l)=b::l:=rfl
@[go_sem] theorem SR{os:List Oper}:mR os O S []=True:=by rw[mR]
@[go_sem ↓] theorem Ru{os:List Oper}{j:Nat}{js:List Nat}:mR os O S (j::js)=((match os[j]? with
  | some o=>(match o.dst with
   | some d=>BM o O S (O d)
   | ab=>False)
  | ab=>False)/\mR os O S js):=by rw[mR]<;>rfl
@[go_sem ↓] theorem awH_nil:GE [] O S pend H=H O pend:=by rw[qu,GJ]
@[go_sem ↓] theorem awH_go:GE (o::l) O S pend H=(match o.op,o.dst with
  | .alloc t,some d=>(match mT t with
   | some X=>GE l (O.put (some d) .any) S (pend++[(d,X)]) H
   | ab=>False)
  | _,_=>∃z,BM o O S z/\GE l (O.put o.dst z) S pend H):=by rw[qu,GJ]<;>rfl
@[go_sem ↓] theorem HOK_go:BM o O S z=((Fr o.op=true/\OE o O S (fun z' S'=>z'=z/\S'=S))∨(match o.op with
 | .call c=>(match c.callee with
  | .value f=>NA (ev O f) (c.args.toList.map (ev O)) S z
  | _=>False)
 | .buildSlice t n ps=>eV t n (ps.toList.map fun p=>(p.1,ev O p.2)) z
 | _=>False)):=by rw[BM,wY]<;>rfl
@[go_sem ↓] theorem Uw:vj [] O S K=K O S:=by rw[vg,oE]
@[go_sem ↓] theorem Ty:vj ((d,X)::r) O S K=aF S (fun b=>vj r (O.put (some d) (.ptr X.es b 0)) (S.upd b X) K):=by rw[vg,oE]<;>rfl
@[go_sem] theorem Uv:mT 50=some ⟨50,2,1,fun _=>.big 0⟩:=rfl
@[go_sem] theorem Uu:mT 52=some ⟨52,1,1,fun _=>.nil⟩:=rfl
@[go_sem] theorem Tx:mT 167=some ⟨167,2,2,fun _=>.big 0⟩:=rfl
@[go_sem] theorem Uq{ds:List Nat}{t:Nat}:Ao ds O t=if ds.contains t&&!pI (O t)then .any else O t:=rfl
end
def yW(O:Tm):List Oper->Nat->AV
 | [],_=>.any
 | o::_,0=>(match o.dst with
  | some d=>O d
  | ab=>.any)
 | _::l,j+1=>yW O l j
theorem I8(O:Tm):∀(l:List Oper) (j:Nat),EE l.toArray O j=yW O l j
 | [],j=>by simp[EE,yW]
 | o::l,0=>by simp[EE,yW];rfl
 | o::l,j+1=>by
  have:=I8 O l j;simp only[EE,yW,fC,ci]at this ⊢;exact this
@[go_sem] theorem yld_go{l:List Oper}{O:Tm}{j:Nat}:EE l.toArray O j=yW O l j:=I8 O l j
@[go_sem] theorem T5{o:Oper}{l:List Oper}{O:Tm}:yW O (o::l) 0=(match o.dst with
  | some d=>O d
  | ab=>.any):=by rw[yW]
@[go_sem] theorem T6{o:Oper}{l:List Oper}{O:Tm}{j:Nat}:yW O (o::l) (j+1)=yW O l j:=by rw[yW]
def PF(f:Nat)(args:List AV)(z:AV):Prop :=
 ∀(w:World) (vs:List Value),uZ w->aT w BJ args vs->Calls ah f vs.toArray w (fun e w'=>∃v,e=.returned v/\bs w' (fun b=>b<w.heap.size) z v/\dz BJ BJ w w')
def VA(S:St)(x x':AV):Prop:=∀(w:World) (v:Value),eM w S->bs w S.dom x v->bs w BJ x' v
def VR(S:St)(x x':AV):Prop:=∀(w:World) (v:Value),eM w S->bs w S.dom x v->bs w (fun b=>¬S.dom b) x' v
def fI(S:St):List AV->List AV->Prop
 | [],[]=>True
 | x::l,y::r=>VA S x y/\fI S l r
 | [],_::_=>False
 | _::_,[]=>False
def VA.refl(S:St)(x:AV):VA S x x:=fun _ _ _ h=>bs.turn (fun _ _ a=>a.elim) _ _ h
def VR.va{y:AV}(h:VR S x y):VA S x y:=fun w v a b=>bs.turn (fun _ _ c=>c.elim) _ _ (h w v a b)
def VR.mf(h:pI x=true):VR S x x:=fun _ _ _ a=>tV h a
theorem yO{S:St}{w:World}(b:eM w S):∀(l r:List AV) (vs:List Value),fI S l r->aT w S.dom l vs->aT w BJ r vs
 | [],[],[],_,_=>by simp[aT]
 | x::l,y::r,v::vs,h,a=>by simp only[aT]at a ⊢;exact⟨h.1 w v b a.1,yO b l r vs h.2 a.2⟩
 | [],[],_::_,_,a=>by simp[aT]at a
 | _::_,_,[],_,a=>by simp[aT]at a
 | [],_::_,_,h,_=>h.elim
 | _::_,[],_,h,_=>h.elim
theorem cS(S:St):∀l,fI S l l
 | []=>trivial
 | x::l=>⟨VA.refl S x,cS S l⟩
def PF.pureS(h:PF f args' z)(c:fI S args args'):uQ f args S z:=by
 intro w vs a d;refine(h w vs a.gl (yO a _ _ _ c d)).mono ?_;rintro e w' ⟨v,rfl,g,i⟩;exact⟨v,rfl,bs.turn (fun k _ b=>by
  simp only[St.dom]at b
  cases e:S k with
  | none=>exact absurd e b
  | some X=>obtain⟨cs,j,_⟩:=a k X e;exact gA j) _ _ g,i⟩
def PF.pure'(h:PF f args z):uQ f args S z:=h.pureS (cS S args)
def PF.spec(h:PF f args' z)(a:fI S args args'){post:AV->St->Prop}(b:post z S):cP f args S post:=(h.pureS a).spec b
def PF.call(h:PF f args z){post:AV->St->Prop}(a:post z S):cP f args S post:=h.pure'.spec a
def CP.pf(a:pI z=true)(h:CP f args z):PF f args z:=by
 intro w vs c d;refine(h St.none w vs ⟨rfl,c,fun b x g=>by simp[St.none]at g⟩ (aT.turn (fun _ _ i=>absurd rfl i) _ _ d)).mono ?_
 rintro e w' ⟨v,rfl,j,k⟩;exact⟨v,rfl,tV a j,k⟩
def PF.of_spec(h:cP f args St.none (fun r S'=>VR S' r z)):PF f args z:=by
 intro w vs d g;refine(h w vs ⟨rfl,d,fun b x i=>by simp[St.none]at i⟩ (aT.turn (fun _ _ c=>absurd rfl c) _ _ g)).mono ?_
 rintro e w' ⟨v,r,S',rfl,j,l,m,a⟩;refine⟨v,rfl,bs.turn (fun k _ c n=>?_) _ _ (j w' v m l),a.os,a.tape,a.output,a.size,fun k c _=>a.keep k c (fun x=>x rfl),a.shape,fun _ _ h=>h⟩;exact a.own k c n rfl
def iH{fn:Func}(e:ah.funcs[f]? = some fn)(g:fn.ntmps=N)(i:fn.results=R)
  (h:Aw c (Eg R.toList fun r S'=>VR S' r z) (OF 0 args) St.none) (j:fn.body=some c:=by exact rfl) (b:jm N c=true:=by kernel_rfl) (a:args.length<=N:=by simp) (d:R.size≠0:=by simp):PF f args z:=PF.of_spec (i9 e g i h j b a d)
def bM(S:St)(b ty es n:Nat)(g:Nat->AV):Prop:=∃g',S b=some ⟨ty,es,n,g'⟩/\∀i,i<n->g' i=g i
def bM.of(h:S b=some ⟨ty,es,n,g⟩):bM S b ty es n g:=⟨g,h,fun _ _=>rfl⟩
def bM.ne{c ty' es' n':Nat}(h:bM S b ty es n g)(h':bM S c ty' es' n' g')(d:ty≠ty'):b≠c:=by
 rintro rfl;obtain⟨x,e,_⟩:=h;obtain⟨y,a,_⟩:=h';rw[e]at a;cases a;exact d rfl
def bM.fresh{c:Nat}(h:bM S b ty es n g)(a:S c=ab):b≠c:=by
 rintro rfl;obtain⟨x,d,_⟩:=h;rw[d]at a;cases a
def bM.upd{c:Nat}(h:bM S b ty es n g)(a:b≠c)(X:eS):bM (S.upd c X) b ty es n g:=by
 obtain⟨x,d,e⟩:=h;exact⟨x,by rw[aO a];exact d,e⟩
def bM.here(h:∀i,i<n->g' i=g i):bM (S.upd b ⟨ty,es,n,g'⟩) b ty es n g:=⟨g',cn,h⟩
def bM.congr(h:bM S b ty es n g)(c:∀i,i<n->g i=g' i):bM S b ty es n g':=by
 obtain⟨x,d,e⟩:=h;exact⟨x,d,fun i a=>(e i a).trans (c i a)⟩
def VR.sl{off len:Nat}(f:bM S b ty es n g)(s:off+len<=n)(i:∀j,j<len->VR S (g (off+j)) (h j)):VR S (.sl es b off len) (.lst es len h):=by
 intro w v a c;obtain⟨g',d,k⟩:=f;obtain⟨cs,e,t,l,x⟩:=a b _ d;simp only[bs]at c ⊢;obtain⟨cap,cs',ty',fr',rfl,m,_,_⟩:=c;refine⟨_,cap,rfl,m,fun y=>⟨b,es*off,rfl,gA e,fun o=>o (by simp[St.dom,d]),fun j p=>?_⟩⟩
 obtain⟨u,q,r⟩:=l (off+j) (by simp only;omega)
 refine⟨u,⟨cs,ty,(0,0),e,by rw[<-cg];exact q⟩,i j p w u a ?_⟩
 rw[<-k (off+j) om];exact r
def VR.nil:VR S .nil (.lst es 0 h):=by
 intro w v c a;simp only[bs]at a ⊢;subst a;exact⟨_,0,rfl,ae _,fun b=>absurd b om⟩
def bB(n:Nat)(r:Nat->Int):AV:=.lst 2 n (fun j=>.big (r j))
def aR(n m:Nat)(A:Nat->Nat->Int):AV:=.lst 1 n (fun i=>bB m (A i))
def aK(n:Nat)(r:Nat->Int):AV:=.lst 1 n (fun j=>.int .i64 (r j))
def az(n m:Nat)(A:Nat->Nat->Int):AV:=.lst 1 n (fun i=>aK m (A i))
def jp(S:St)(b n:Nat)(r:Nat->Int):Prop:=bM S b 50 2 n (fun j=>.big (r j))
def qr(S:St)(b n:Nat)(r:Nat->Int):Prop:=bM S b 2 1 n (fun j=>.int .i64 (r j))
structure dH(S:St)(b:Nat)(g:Nat->Nat)(n m:Nat)(A:Nat->Nat->Int):Prop where
 outer:bM S b 59 1 n (fun i=>.sl 2 (g i) 0 m)
 row:∀i,i<n->jp S (g i) m (A i)
 inj:∀i j,i<n->j<n->g i=g j->i=j
structure eI(S:St)(b:Nat)(g:Nat->Nat)(n m:Nat)(A:Nat->Nat->Int):Prop where
 outer:bM S b 29 1 n (fun i=>.sl 1 (g i) 0 m)
 row:∀i,i<n->qr S (g i) m (A i)
 inj:∀i j,i<n->j<n->g i=g j->i=j
def jp.vr(h:jp S b n r):VR S (.sl 2 b 0 n) (bB n r):=VR.sl h om (fun j _=>by rw[aD];exact VR.mf rfl)
def qr.vr(h:qr S b n r):VR S (.sl 1 b 0 n) (aK n r):=VR.sl h om (fun j _=>by rw[aD];exact VR.mf rfl)
def dH.vr{g:Nat->Nat}(h:dH S b g n m A):VR S (.sl 1 b 0 n) (aR n m A):=VR.sl h.outer om (fun j a=>by rw[aD];exact(h.row j a).vr)
def eI.vr{g:Nat->Nat}(h:eI S b g n m A):VR S (.sl 1 b 0 n) (az n m A):=VR.sl h.outer om (fun j a=>by rw[aD];exact(h.row j a).vr)
def i64_in(b:-9223372036854775808<=a)(c:a<=9223372036854775807):IntKind.i64.wrap a=a:=IntWalk.i64_in a ⟨b,c⟩
def dW(h:a=n)(b:n<=4611686018427387904):IntKind.i64.wrap a=(n:Int):=by rw[h];exact i64_in om om

abbrev aI:=Nat->Nat->Int
def ay:Nat->(Nat->Int)->Int
 | 0,_=>0
 | n+1,f=>ay n f+f n
def aE{f g:Nat->Int}(h:∀i,i<n->f i=g i):ay n f=ay n g:=by
 induction n with
 | zero=>rfl
 | succ n ih=>simp only[ay];rw[ih (fun i a=>h i om),h n om]
def jh{f:Nat->Int}(h:∀i,i<n->f i=0):ay n f=0:=by
 induction n with
 | zero=>rfl
 | succ n ih=>simp only[ay];rw[ih (fun i a=>h i om),h n om];rfl
def eD(n:Nat)(f g:Nat->Int):ay n (fun i=>f i+g i)=ay n f+ay n g:=by
 induction n with
 | zero=>rfl
 | succ n ih=>simp only[ay];rw[ih];omega
def cR(n:Nat)(c:Int)(f:Nat->Int):ay n (fun i=>c*f i)=c*ay n f:=by
 induction n with
 | zero=>simp[ay]
 | succ n ih=>simp only[ay];rw[ih,IX]
def pg(n:Nat)(x y:Int)(f g:Nat->Int):ay n (fun i=>x*f i+y*g i)=x*ay n f+y*ay n g:=by
 rw[eD,cR,cR]
def dr{f:Nat->Int}(k:Nat)(c:k<n)(h:∀i,i<n->i≠k->f i=0):ay n f=f k:=by
 induction n with
 | zero=>omega
 | succ n ih =>
  simp only[ay];by_cases e:k=n
  .subst e;rw[jh (fun i b=>h i om om)];omega
  .rw[ih om (fun i b a=>h i om a),h n om om];omega
def B8{f:Nat->Int}(k:Nat)(d:k+1<n)(h:∀i,i<n->i≠k->i≠k+1->f i=0):ay n f=f k+f (k+1):=by
 induction n with
 | zero=>omega
 | succ n ih =>
  simp only[ay];by_cases e:k+1=n
  .subst e;rw[dr k om (fun i b a=>h i om a om)]
  .rw[ih om (fun i b a c=>h i om a c),h n om om om];omega
def pR(n m:Nat)(f:Nat->Nat->Int):ay n (fun i=>ay m (fun j=>f i j))=ay m (fun j=>ay n (fun i=>f i j)):=by
 induction n with
 | zero=>simp only[ay];rw[jh];intros;rfl
 | succ n ih=>simp only[ay];rw[ih,<-eD]
def xq(j:Nat):Int:=if j%2=0 then 1 else -1
def Fm(j:Nat):xq (j+1)=- xq j:=by unfold xq;split<;>split<;>omega
def zI:xq 0=1:=rfl
def skip(j k:Nat):Nat:=if k<j then k else k+1
def cut(A:aI)(j:Nat):aI:=fun i k=>A (i+1) (skip j k)
def det:Nat->aI->Int
 | 0,_=>1
 | n+1,A=>ay (n+1) fun j=>xq j*A 0 j*det n (cut A j)
def yv(h:k<n):skip j k<n+1:=by unfold skip;split<;>omega
def cD{A B:aI}(h:∀i j,i<n->j<n->A i j=B i j):det n A=det n B:=by
 induction n generalizing A B with
 | zero=>rfl
 | succ n ih =>
  simp only[det];refine aE fun j a=>?_;rw[h 0 j om a,ih (A:=cut A j) (B:=cut B j) (fun i k c b=>h _ _ om (yv b))]
def setRow(A:aI)(i:Nat)(r:Nat->Int):aI:=fun a b=>if a=i then r b else A a b
def cE(A:aI)(i:Nat)(r:Nat->Int):aI:=fun a b=>if b=i then r a else A a b
def tc(A:aI)(i j:Nat)(r:Nat->Int):cut (setRow A (i+1) r) j=setRow (cut A j) i (fun k=>r (skip j k)):=by
 funext a b;simp[cut,setRow]
def F1(A:aI)(j:Nat)(r:Nat->Int):cut (setRow A 0 r) j=cut A j:=by
 funext a b;simp[cut,setRow]
def uj(A:aI)(a:i<n)(x y:Int)(r s:Nat->Int) :
  det n (setRow A i (fun j=>x*r j+y*s j))=x*det n (setRow A i r)+y*det n (setRow A i s):=by
 induction n generalizing A i r s with
 | zero=>omega
 | succ n ih =>
  simp only[det];rw[<-pg];refine aE fun j _=>?_
  cases i with
  | zero=>simp only[F1,setRow,aQ];grind
  | succ i=>rw[tc,ih _ om,tc,tc];simp only[setRow,Nat.reduceEqDiff,aS];grind
def rn(A:aI)(c:i<n)(x:Int)(r:Nat->Int):det n (setRow A i (fun j=>x*r j))=x*det n (setRow A i r):=by
 have h:=uj A c x 0 r r;rw[cD (B:=setRow A i (fun j=>x*r j+0*r j)) (fun a b _ _=>by simp[setRow]),h];omega
def kl(A:aI)(c:i<n)(r s:Nat->Int):det n (setRow A i (fun j=>r j+s j))=det n (setRow A i r)+det n (setRow A i s):=by
 have h:=uj A c 1 1 r s;rw[cD (B:=setRow A i (fun j=>1*r j+1*s j)) (fun a b _ _=>by simp[setRow]),h];omega
def Ho(N:Nat)(g:Nat->Nat->Int):ay (N+1) (fun j=>ay N (fun k=>if k<j then g k j else-g j (k+1)))=0:=by
 induction N with
 | zero=>simp[ay]
 | succ N ih =>
  rw[show ay (N+1+1) (fun j=>ay (N+1) (fun k=>if k<j then g k j else-g j (k+1)))
  =ay (N+1) (fun j=>ay (N+1) (fun k=>if k<j then g k j else-g j (k+1)))+ay (N+1) (fun k=>if k<N+1 then g k (N+1)else-g (N+1) (k+1))from rfl]
  have a:ay (N+1) (fun j=>ay (N+1) (fun k=>if k<j then g k j else-g j (k+1)))
  =ay (N+1) (fun j=>ay N (fun k=>if k<j then g k j else-g j (k+1))+(- g j (N+1))):=by
   refine aE fun j e=>?_;simp only[ay];rw[af om]
  have b:ay (N+1) (fun k=>if k<N+1 then g k (N+1)else-g (N+1) (k+1))=ay (N+1) (fun k=>g k (N+1)) :=
   aE fun k c=>by rw[ai c]
  rw[a,b,eD,ih];have d:ay (N+1) (fun j=>- g j (N+1))=- ay (N+1) (fun j=>g j (N+1)):=by
   have:=cR (N+1) (-1) (fun j=>g j (N+1));rw[aE (g:=fun i=>-1*g i (N+1)) (fun i _=>om),this];omega
  rw[d];omega
def Dm(h:k<j)(c:Nat):skip j (skip k c)=skip k (skip (j-1) c):=by
 unfold skip;split<;>split<;>(try split)<;>(try split)<;>omega
def J0(A:aI)(o:i+1<n)(h:∀j,j<n->A i j=A (i+1) j):det n A=0:=by
 induction n generalizing A i with
 | zero=>omega
 | succ n ih =>
  cases i with
  | succ i =>
   simp only[det];exact jh fun j g=>by rw[ih (cut A j) (i:=i) om (fun k d=>h _ (yv d))];omega
  | zero =>
   obtain⟨n,rfl⟩:∃m,n=m+1:=⟨n-1,om⟩
   have e:det (n+1+1) A=ay (n+1+1) (fun j=>ay (n+1) (fun k =>
     if k<j then xq k*xq j*A 0 k*A 0 j*det n (cut (cut A j) k)else-(xq j*xq (k+1)*A 0 j*A 0 (k+1)*det n (cut (cut A (k+1)) j)))):=by
    simp only[det];refine aE fun j g=>?_;rw[<-cR];refine aE fun k d=>?_;have l:cut A j 0 k=A 0 (skip j k):=by
     show A 1 (skip j k)=_;exact(h _ (yv d)).symm
    rw[l];split
    .rename_i c;rw[show skip j k=k by unfold skip;rw[ai c]];grind
    .rename_i c;rw[show skip j k=k+1 by unfold skip;rw[af c],Fm]
     have f:cut (cut A j) k=cut (cut A (k+1)) j:=by
      funext a b;show A (a+1+1) (skip j (skip k b))=A (a+1+1) (skip (k+1) (skip j b));rw[Dm (j:=k+1) (k:=j) om];rfl
     rw[f];grind
   rw[e];exact Ho (n+1) (fun k j=>xq k*xq j*A 0 k*A 0 j*det n (cut (cut A j) k))

def ke(A:aI)(i:Nat):setRow A i (A i)=A:=by funext a b;simp only[setRow];split<;>simp_all
def ln(A:aI)(i:Nat):cE A i (fun a=>A a i)=A:=by funext a b;simp only[cE];split<;>simp_all
def iZ(A:aI){i k:Nat}(h:i≠k)(r s:Nat->Int):setRow (setRow A i r) k s=setRow (setRow A k s) i r:=by
 funext a b;simp only[setRow];grind
def DU(A:aI)(b:i+1<n)(r s:Nat->Int):det n (setRow (setRow A i r) (i+1) s)=- det n (setRow (setRow A i s) (i+1) r):=by
 have a:∀t:Nat->Int,det n (setRow (setRow A i t) (i+1) t)=0:=fun t =>
  J0 _ b (fun j _=>by simp[setRow])
 have c:=a (fun j=>r j+s j);rw[kl _ om,iZ _ om,iZ A (k:=i+1) (s:=s) om,kl _ om,kl _ om]at c;rw[iZ _ om s r,iZ _ om r s];have d:=a r;have e:=a s;rw[iZ _ om]at d e;omega
def mI(A:aI)(c:i<k)(a:k<n)(h:∀j,j<n->A i j=A k j):det n A=0:=by
 induction k generalizing A with
 | zero=>omega
 | succ k ih =>
  by_cases e:i=k
  .subst e;exact J0 A a h
  .have b:=DU A a (A k) (A (k+1));have d:setRow (setRow A k (A k)) (k+1) (A (k+1))=A:=by rw[ke,ke]
   rw[d]at b;rw[b,ih (setRow (setRow A k (A (k+1))) (k+1) (A k)) om om (fun j f=>?_)];· rfl
   have:=h j f;simp only[setRow];rw[af om,af om,af om,ai trivial];exact this
def sE(A:aI)(b:i<n)(c:k<n)(a:i≠k):det n (setRow A i (A k))=0:=by
 rcases mM a with h|h
 .exact mI _ h c (fun j _=>by simp only[setRow];rw[ai trivial,af om])
 .exact mI _ h b (fun j _=>by simp only[setRow];rw[af om,ai trivial])
def nj(A:aI)(b:i<n)(d:k<n)(a:i≠k)(x c:Int):det n (setRow A i (fun j=>x*A i j+c*A k j))=x*det n A:=by
 rw[uj A b x c (A i) (A k),sE A b d a,ke];omega
def NM(A:aI)(b:i<n)(d:k<n)(a:i≠k):det n (setRow (setRow A i (A k)) k (A i))=- det n A:=by
 have c:∀t:Nat->Int,det n (setRow (setRow A i t) k t)=0:=fun t=>by
  rcases mM a with h|h
  .exact mI _ h d (fun j _=>by simp only[setRow];grind)
  .exact mI _ h b (fun j _=>by simp only[setRow];grind)
 have e:=c (fun j=>A i j+A k j);rw[kl _ d,iZ _ a,iZ A a (s:=A k),kl _ b,kl _ b]at e;have f:=c (A i);have g:=c (A k);rw[iZ _ a]at f g;have l:setRow (setRow A k (A k)) i (A i)=A:=by rw[ke,ke]
 rw[l]at e;rw[iZ _ a];omega
def gU(j:Nat):Nat->Int:=fun k=>if k=j then 1 else 0
def td(n:Nat)(A:aI)(i j:Nat):Int:=det n (setRow A i (gU j))
def FY(A:aI)(c:i<n)(m:Nat)(r:Nat->Int) :
  det n (setRow A i (fun k=>if k<m then r k else 0))=ay m (fun j=>r j*td n A i j):=by
 induction m with
 | zero =>
  have h:=rn A c 0 (fun _=>0);rw[cD (B:=setRow A i (fun j=>0*(fun _=>0) j)) (fun a b _ _=>by simp[setRow]),h];simp[ay]
 | succ m ih =>
  simp only[ay];rw[<-ih];have h:=uj A c 1 (r m) (fun k=>if k<m then r k else 0) (gU m)
  rw[cD (B:=setRow A i (fun j=>1*(fun k=>if k<m then r k else 0) j+r m*gU m j)) (fun a b _ _=>?_),h]
  .show _=_+r m*det n _;omega
  .simp only[setRow,gU];split
   .by_cases e:b=m
    .subst e;simp
    .by_cases d:b<m
     .simp[e,d];omega
     .have:¬b<m+1:=om
      simp[e,d,this]
   .rfl
def Is(A:aI)(c:i<n)(r:Nat->Int):ay n (fun j=>r j*td n A i j)=det n (setRow A i r):=by
 rw[<-FY A c n r];exact cD fun a b _ d=>by simp only[setRow];split<;>simp_all
def DB(A:aI)(a:i<n)(b:k<n):ay n (fun j=>A k j*td n A i j)=if i=k then det n A else 0:=by
 rw[Is A a];split
 .rename_i e;subst e;rw[ke]
 .rename_i e;exact sE A a b e
def ut(A:aI)(a:0<n)(h:∀i,i<n->A i 0=0):det n A=0:=by
 induction n generalizing A with
 | zero=>omega
 | succ n ih =>
  simp only[det];refine jh fun j b=>?_
  cases j with
  | zero=>rw[h 0 om];omega
  | succ j=>rw[ih (cut A (j+1)) om (fun i c=>by
    show A (i+1) (skip (j+1) 0)=0;rw[show skip (j+1) 0=0 from rfl];exact h _ om)];omega
def rU(A:aI)(h:∀i,i<n->A (i+1) 0=0):det (n+1) A=A 0 0*det n (fun i j=>A (i+1) (j+1)):=by
 rw[det,dr 0 om]
 .rw[zI,fA];rfl
 .intro j c a
  cases j with
  | zero=>omega
  | succ j=>rw[ut (cut A (j+1)) om (fun i b=>by
    show A (i+1) (skip (j+1) 0)=0;rw[show skip (j+1) 0=0 from rfl];exact h _ b)];omega
def jV(A:aI)(m:Nat):aI:=fun i j=>if 0<i/\i<=m then A 0 0*A i j-A i 0*A 0 j else A i j
def BA(A:aI)(n m:Nat)(a:m<=n):det (n+1) (jV A m)=A 0 0^m*det (n+1) A:=by
 induction m with
 | zero=>rw[cD (B:=A) (fun i j _ _=>by unfold jV;rw[af om])];simp
 | succ m ih =>
  have e:∀i j,jV A (m+1) i j=setRow (jV A m) (m+1) (fun j=>A 0 0*jV A m (m+1) j+(- A (m+1) 0)*jV A m 0 j) i j:=by
   intro i j;simp only[setRow];split
   .rename_i e;subst e;simp only[jV];rw[ai om,af om,af om];grind
   .simp only[jV];by_cases h:0<i/\i<=m
    .rw[ai om,ai h]
    .rw[af om,af h]
  rw[cD (fun i j _ _=>e i j),nj _ om om om,ih om,fE]
  grind
def F7(A:aI):aI:=fun i j=>A 0 0*A (i+1) (j+1)-A (i+1) 0*A 0 (j+1)
def NQ(A:aI)(n:Nat):A 0 0*det n (F7 A)=A 0 0^n*det (n+1) A:=by
 rw[<-BA A n n (ae _),rU]
 .congr 1;exact cD fun i j a b=>by simp only[jV,F7];rw[ai om]
 .intro i a;simp only[jV];rw[ai om];grind
def oR(A:aI){c j:Nat}(r:Nat->Int)(h:c<j):cut (cE A c r) j=cE (cut A j) c (fun a=>r (a+1)):=by
 funext a b;simp only[cut,cE,skip];grind
def oS(A:aI){c j:Nat}(r:Nat->Int)(h:j<c):cut (cE A c r) j=cE (cut A j) (c-1) (fun a=>r (a+1)):=by
 funext a b;simp only[cut,cE,skip];grind
def oT(A:aI)(c:Nat)(r:Nat->Int):cut (cE A c r) c=cut A c:=by
 funext a b;simp only[cut,cE,skip];grind
def DX{c:Nat}(A:aI)(a:c<n)(x y:Int)(r s:Nat->Int) :
  det n (cE A c (fun j=>x*r j+y*s j))=x*det n (cE A c r)+y*det n (cE A c s):=by
 induction n generalizing A c r s with
 | zero=>omega
 | succ n ih =>
  simp only[det];rw[<-pg];refine aE fun j b=>?_;rcases dY c j with h|h|h
  .rw[oR _ _ h,oR _ _ h,oR _ _ h,ih _ om];simp only[cE];rw[af om,af om,af om];grind
  .subst h;rw[oT,oT,oT];simp only[cE,aQ];grind
  .rw[oS _ _ h,oS _ _ h,oS _ _ h,ih _ om];simp only[cE];rw[af om,af om,af om];grind
def xH{c:Nat}(A:aI)(f:c+1<n)(h:∀i,i<n->A i c=A i (c+1)):det n A=0:=by
 induction n generalizing A c with
 | zero=>omega
 | succ n ih =>
  simp only[det];rw[B8 c f]
  .have e:det n (cut A c)=det n (cut A (c+1)):=cD fun i k b m=>by
    simp only[cut,skip];by_cases a:k<c
    .rw[ai a,ai om]
    .by_cases d:k=c
     .subst d;rw[af om,ai om];exact(h _ om).symm
     .rw[af a,af om]
   rw[e,Fm,h 0 om];grind
  .intro j o a d;rcases mM a with g|l
   .rw[ih (cut A j) (c:=c-1) om (fun i b=>by
     simp only[cut,skip];rw[af om,af om];rw[(om:c-1+1=c)];exact h _ om)];omega
   .rw[ih (cut A j) (c:=c) om (fun i b=>by
     simp only[cut,skip];rw[ai om,ai om];exact h _ om)];omega
def i7(A:aI){i k:Nat}(h:i≠k)(r s:Nat->Int):cE (cE A i r) k s=cE (cE A k s) i r:=by
 funext a b;simp only[cE];grind
def lq(A:aI)(c:i<n)(r s:Nat->Int):det n (cE A i (fun j=>r j+s j))=det n (cE A i r)+det n (cE A i s):=by
 have h:=DX A c 1 1 r s;rw[cD (B:=cE A i (fun j=>1*r j+1*s j)) (fun a b _ _=>by simp[cE]),h];omega
def wx(A:aI)(b:i+1<n)(r s:Nat->Int):det n (cE (cE A i r) (i+1) s)=- det n (cE (cE A i s) (i+1) r):=by
 have a:∀t:Nat->Int,det n (cE (cE A i t) (i+1) t)=0:=fun t =>
  xH _ b (fun j _=>by simp[cE])
 have c:=a (fun j=>r j+s j);rw[lq _ om,i7 _ om,i7 A (k:=i+1) (s:=s) om,lq _ om,lq _ om]at c;rw[i7 _ om s r,i7 _ om r s];have d:=a r;have e:=a s;rw[i7 _ om]at d e;omega
def oC(A:aI)(d:i<k)(b:k<n)(h:∀j,j<n->A j i=A j k):det n A=0:=by
 induction k generalizing A with
 | zero=>omega
 | succ k ih =>
  by_cases e:i=k
  .subst e;exact xH A b h
  .have c:=wx A b (fun a=>A a k) (fun a=>A a (k+1));have f:cE (cE A k (fun a=>A a k)) (k+1) (fun a=>A a (k+1))=A:=by rw[ln,ln]
   rw[f]at c;rw[c,ih (cE (cE A k (fun a=>A a (k+1))) (k+1) (fun a=>A a k)) om om (fun j g=>?_)];· rfl
   have:=h j g;simp only[cE];rw[af om,af om,af om,ai trivial];exact this
def qd(A:aI)(b:i<n)(d:k<n)(a:i≠k)(x c:Int):det n (cE A i (fun j=>x*A j i+c*A j k))=x*det n A:=by
 rw[DX A b x c (fun j=>A j i) (fun j=>A j k),ln];have:det n (cE A i (fun j=>A j k))=0:=by
  rcases mM a with h|h
  .exact oC _ h d (fun j _=>by simp only[cE];rw[ai trivial,af om])
  .exact oC _ h b (fun j _=>by simp only[cE];rw[af om,ai trivial])
 rw[this];omega
def DW(A:aI)(c:i<n)(e:k<n)(b:i≠k):det n (cE (cE A i (fun a=>A a k)) k (fun a=>A a i))=- det n A:=by
 have d:∀t:Nat->Int,det n (cE (cE A i t) k t)=0:=fun t=>by
  rcases mM b with h|h
  .exact oC _ h e (fun j _=>by simp only[cE];grind)
  .exact oC _ h c (fun j _=>by simp only[cE];grind)
 have f:=d (fun j=>A j i+A j k);rw[lq _ e,i7 _ b,i7 A b (s:=fun j=>A j k),lq _ c,lq _ c]at f;have g:=d (fun j=>A j i);have l:=d (fun j=>A j k);rw[i7 _ b]at g l;have m:cE (cE A k (fun j=>A j k)) i (fun j=>A j i)=A:=by rw[ln,ln]
 rw[m]at f;rw[i7 _ b];omega

def Qv(A:aI):det 1 A=A 0 0:=by simp[det,ay,xq]
def JX(A:aI):det 2 A=A 0 0*A 1 1-A 1 0*A 0 1:=by simp[det,ay,xq,cut,skip];grind
def xG(n:Nat)(c:Int)(A:aI):det n (fun i j=>c*A i j)=c^n*det n A:=by
 induction n generalizing A with
 | zero=>simp[det]
 | succ n ih =>
  simp only[det];rw[<-cR];refine aE fun j _=>?_;rw[show cut (fun i j=>c*A i j) j=fun i k=>c*cut A j i k from rfl,ih,fE];grind
def bar(prev:Int)(A:aI):aI:=fun i j=>F7 A i j/prev
def Rg(prev:Int)(A:aI):Prop:=∀(l:Nat) (ρ γ:Nat->Nat),prev^l∣det (l+1) (fun i j=>A (ρ i) (γ j))
def lC(ρ:Nat->Nat):Nat->Nat
 | 0=>0
 | i+1=>ρ i+1
def Rg.exact{A:aI}(h:Rg prev A)(i j:Nat):prev*bar prev A i j=F7 A i j:=by
 have a:=h 1 (lC fun _=>i) (lC fun _=>j);rw[JX,fE,Int.pow_zero,fA]at a;exact iL a
def Lt{A:aI}(h:Rg prev A)(b:A 0 0≠0)(l:Nat)(ρ γ:Nat->Nat) :
  prev^(l+1)*det (l+1) (fun i j=>bar prev A (ρ i) (γ j))=A 0 0^l*det (l+2) (fun i j=>A (lC ρ i) (lC γ j)):=by
 have a:=NQ (fun i j=>A (lC ρ i) (lC γ j)) (l+1);rw[<-xG,cD (B:=F7 (fun i j=>A (lC ρ i) (lC γ j))) (fun i j _ _=>by
  show prev*bar prev A (ρ i) (γ j)=_;rw[h.exact];rfl)]
 simp only[lC]at a;rw[fE,cX (A 0 0^l),jn]at a;exact dN b a

end Go.Proofs.YtdobfmlmenaajaaGreatDoor
