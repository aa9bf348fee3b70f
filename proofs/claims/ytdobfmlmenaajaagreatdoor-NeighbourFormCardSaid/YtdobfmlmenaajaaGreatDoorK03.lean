/-
  Lemmas for NeighbourForm.
-/
import Derived.Test.YtdobfmlmenaajaaGreatDoorK02
import Derived.LoopN
import Derived.Scope
namespace Go.Proofs.YtdobfmlmenaajaaGreatDoor
open Go.RowKit Tryz
open _root_.Array renaming replicate→kW
open _root_.Classical renaming choose→fN
open _root_.List renaming replicate→cn,getD→dh,range→wS
open _root_.Option renaming none→ae
open Region renaming ready→kK,wanted→o5
open Tryz renaming prog→ak
set_option maxHeartbeats 6400000
set_option maxRecDepth 4096
set_option linter.all false
variable{x y z:AV}{K:AV->Prop}{post:AV->St->Prop}{a:Act}{ps:Array (Nat×Operand)}{listed:Array Bool}{ops:Array Oper}{fi:Array Operand}{R:Array ResultVar}{c:Code}{Q:Exit->Act->World->Prop}{prev za:Int}{jss:List (List Nat)}{args args':List AV}{l:List Oper}{N b es f i id j k m n ty:Nat}{g g' h:Nat->AV}{r:Nat->Int}{A:Nat->Nat->Int}{M:Nat->Prop}{o:Oper}{d:Option Nat}{p q:Prop}{S:St}{O O':Tm}{α:Type}{t:TypeId}{v:Value}{w w':World}{X:eo}
def P6(P:Program)(f:Nat):Bool:=match P.funcs[f]? with
 | some fn => fn.body.isSome && fn.name != "runtime.NumGoroutine"
 | ae=>false
def Rm:(wS 259).all (fun i=>i==241||(i==242||P6 ak (i+11)))=true:=by kernel_rfl
def My(h:(11<=f/\f<270)/\f≠252/\f≠253)(args:Array Value)(w:World):(callFunc f args).run ak w=.ok (.enter f args) w:=by
 have a:=aF.1 Rm (f-11) (by simp;omega)
 rw[(om:f-11+11=f)]at a
 have c:(f-11==241)=false:=by simp;omega
 have d:(f-11==242)=false:=by simp;omega
 rw[c,d,Bool.false_or,Bool.false_or]at a;unfold P6 at a
 cases b:ak.funcs[f]? with
 | none=>rw[b]at a;cases a
 | some fn =>
  rw[b]at a;simp only[cU,bne_iff_ne,Bp]at a;simp[callFunc,b,a.2];intro e;simp[e]at a
def Ps(x y:AV)(K:AV->Prop):Prop:=match x,y with
 | .int k a,.int k' b=>k=k'/\K (.int k (if b > a then b else a))
 | _,_=>False
def H4(h:Ps x y K){w:World}{M:Nat->Prop}{vx vy:Value}(c:bH w M x vx)(d:bH w M y vy)(ts:Array TypeId)(t:TypeId) :
  ∃z v,K z/\bH w M z v/\(Builtin.max_ ts t #[vx,vy]).run ak w=.ok v w:=by
 unfold Ps at h;split at h
 .rename_i k a k' b;obtain⟨rfl,e⟩:=h;simp only[bH]at c d;subst c d;exact⟨_,.int k (if b > a then b else a),e,by simp[bH],by simp[Builtin.max_,Builtin.max2]⟩
 .exact h.elim
def AG(f:Nat)(l r:List AV)(K:AV->Prop):Prop:=match l with
 | []=>K (.fn f r)
 | x::l=>r=[]/\K (.mfn f (x::l))
def xR(O:Tm)(c:Call)(S:St)(K:AV->St->Prop):Prop:=match c.callee with
 | .value f=>(match ev O f with
  | .fn f l=>((11<=f/\f<270)/\f≠252/\f≠253)/\cJ f (c.args.toList.map (ev O)++l) S K
  | .mfn f l=>((11<=f/\f<270)/\f≠252/\f≠253)/\cJ f (l++c.args.toList.map (ev O)) S K
  | _=>False)
 | .builtin .len=>(match c.args.toList,c.argTypes.toList with
  | [x],[t]=>H5 t (ev O x) (fun z=>K z S)
  | _,_=>False)
 | .builtin .max=>(match c.args.toList with
  | [x,y]=>Ps (ev O x) (ev O y) (fun z=>K z S)
  | _=>False)
 | .builtin .append=>(match c.args.toList,c.argTypes.toList with
  | [s,x],[t,t']=>if t'=3 then rJ t (ev O s) (ev O x) S K else gD t t' (ev O s) (ev O x) S K
  | _,_=>False)
 | .builtin .copy=>(match c.args.toList,c.argTypes.toList with
  | [s,x],[t,_]=>xP t (ev O s) (ev O x) S K
  | _,_=>False)
 | _=>False
def tp(t:TypeId)(ps:List (Nat×AV))(K:AV->Prop):Prop:=match t,ps with
 | 50,[]=>K (.big 0)
 | 167,[(0,x),(1,y)]=>ei 2 x/\ei 2 y/\K (.agg [x,y])
 | 183,[(0,x),(1,y)]=>ei 1 x/\ei 1 y/\K (.agg [x,y])
 | 218,[(0,x),(1,y)]=>ei 1 x/\ei 1 y/\K (.agg [x,y])
 | 107,[(0,x)]=>ei 1 x/\K (.agg [x,.int .i64 0])
 | 195,[(0,x),(1,y)]=>ei 2 x/\ei 2 y/\K (.agg [x,y])
 | 238,[(0,x),(1,y),(2,z)]=>ei 1 x/\ei 1 y/\ei 1 z/\K (.agg [x,y,z])
 | 160,[(0,x),(1,y)]=>ei 1 x/\ei 1 y/\K (.agg [x,y,.nil,.nfn])
 | 202,[(0,x),(1,y)]=>ei 1 x/\ei 1 y/\K (.agg [x,y])
 | 197,[(0,x),(1,y),(2,z),(3,.agg [p,q]),(4,.agg [r,s])]=>ei 2 x/\ei 2 y/\ei 2 z/\ei 2 p/\ei 2 q/\ei 2 r/\ei 2 s/\K (.agg [x,y,z,p,q,r,s])
 | _,_=>False
def fS{z:Value}{s:Nat}(a:mi ak t=some (z,s,b)):∃i,ak.info? t=some i/\i.zero=some z/\i.size=s:=by
 unfold mi at a
 cases c:ak.info? t with
 | none=>rw[c]at a;simp at a
 | some i =>
  rw[c]at a;simp only[dQ,eX,jX]at a;obtain⟨z2,d,e,f,g⟩:=a;exact⟨i,rfl,by rw[d,e],f⟩
def z107:mi ak 107=some (.agg #[.slice ae 0 0,.int .i64 0],2,32):=by kernel_rfl
def z183:mi ak 183=some (.agg #[.slice ae 0 0,.slice ae 0 0],2,48):=by kernel_rfl
def z218:mi ak 218=some (.agg #[.slice ae 0 0,.int .i64 0],2,32):=by kernel_rfl
def z167:mi ak 167=some (.agg #[.bool false,.slice ae 0 0,.bool false,.slice ae 0 0],4,64):=by kernel_rfl
def z50:mi ak 50=some (.agg #[.bool false,.slice ae 0 0],2,32):=by kernel_rfl
def z52:mi ak 52=some (.slice ae 0 0,1,24):=by kernel_rfl
def z216:mi ak 216=some (.slice ae 0 0,1,24):=by kernel_rfl
def z22:mi ak 22=some (.slice ae 0 0,1,24):=by kernel_rfl
def z195:mi ak 195=some (.agg #[.bool false,.slice ae 0 0,.bool false,.slice ae 0 0],4,64):=by kernel_rfl
def z197:mi ak 197=some (.agg (cn 7 [.bool false,.slice ae 0 0]).flatten.toArray,14,224):=by kernel_rfl
def z160:mi ak 160=some (.agg #[.slice ae 0 0,.slice ae 0 0,.slice ae 0 0,.nilFunc],4,80):=by kernel_rfl
def z202:mi ak 202=some (.agg #[.int .u64 0,.int .u64 0],2,16):=by kernel_rfl
def z97:mi ak 97=some (.int .u64 0,1,8):=by kernel_rfl
def z59:mi ak 59=some (.slice ae 0 0,1,24):=by kernel_rfl
def z2:mi ak 2=some (.int .i64 0,1,8):=by kernel_rfl
def z238:mi ak 238=some (.agg #[.int .i64 0,.int .i64 0,.int .i64 0],3,24):=by kernel_rfl
def z3:mi ak 3=some (.int .i64 0,1,8):=by kernel_rfl
def gV(h:ei 1 x)(a:bH w M x v):v.cells=#[v]:=by
 rcases C5 h a with⟨_,b,_⟩|⟨e,_⟩
 .exact rY b
 .omega
def gU(h:ei 2 x)(a:bH w M x v):∃p q,v=.agg #[p,q]:=by
 rcases C5 h a with⟨e,_⟩|⟨_,p,q,e,_⟩
 .omega
 .exact⟨p,q,e⟩
def uS{ps:List (Nat×AV)}(h:tp t ps K){w:World}{M:Nat->Prop}{qs:List (Nat×Value)}(f:qy w M ps qs) :
  ∃z u,K z/\bH w M z u/\(Instr.build t qs.toArray).run ak w=.ok u w:=by
 unfold tp at h;split at h
 .cases qs with
  | cons _ _=>exact f.elim
  | nil =>
   refine⟨_,.agg #[.bool false,.slice ae 0 0],h,by simp only[bH];exact ew.zero w,?_⟩
   obtain⟨i,X,Y,_⟩:=o7 (t:=50) (es:=2) (x:=.big 0) (z:=.agg #[.bool false,.slice ae 0 0]) rfl;have Z:=Qp;simp[Instr.build,zeroValue,typeInfo,X,Y,Instr.fill,Value.cells]
 .rename_i x y;obtain⟨sx,sy,g⟩:=h
  match qs,f with
  | [(a,vx),(b,vy)],f =>
   simp only[qy]at f;obtain⟨rfl,rx,rfl,ry,_⟩:=f;obtain⟨D,E,rfl⟩:=gU sx rx;obtain⟨F,G,rfl⟩:=gU sy ry;obtain⟨i,l,m,v⟩:=fS z167;obtain⟨j,n,A,o⟩:=fS z50;refine⟨_,.agg #[D,E,F,G],g,by simp only[bH];exact⟨[.agg #[D,E],.agg #[F,G]],by simp[Value.cells],by simp only[a8];exact⟨rx,ry,trivial⟩⟩,?_⟩
   simp[Instr.build,zeroValue,typeInfo,l,m,bM underlying167,df n,o,Instr.fill,Value.cells]
  | [],f=>exact f.elim
  | [_],f=>exact f.2.2.elim
  | _::_::_::_,f=>exact f.2.2.2.2.elim
 .rename_i x y;obtain⟨sx,sy,g⟩:=h
  match qs,f with
  | [(a,vx),(b,vy)],f =>
   simp only[qy]at f;obtain⟨rfl,rx,rfl,ry,_⟩:=f;have cx:=gV sx rx;have cy:=gV sy ry;obtain⟨i,l,m,v⟩:=fS z183;obtain⟨j,n,A,o⟩:=fS z52;refine⟨_,.agg #[vx,vy],g,by simp only[bH];exact⟨[vx,vy],by simp[cx,cy],by simp only[a8];exact⟨rx,ry,trivial⟩⟩,?_⟩
   simp[Instr.build,zeroValue,typeInfo,l,m,bM underlying183,df n,o,Instr.fill,cx,cy];simp[Value.cells]
  | [],f=>exact f.elim
  | [_],f=>exact f.2.2.elim
  | _::_::_::_,f=>exact f.2.2.2.2.elim
 .rename_i x y;obtain⟨sx,sy,g⟩:=h
  match qs,f with
  | [(a,vx),(b,vy)],f =>
   simp only[qy]at f;obtain⟨rfl,rx,rfl,ry,_⟩:=f;have cx:=gV sx rx;have cy:=gV sy ry;obtain⟨i,l,m,v⟩:=fS z218;obtain⟨j,n,A,o⟩:=fS z216;obtain⟨k,B,H,C⟩:=fS z3;refine⟨_,.agg #[vx,vy],g,by simp only[bH];exact⟨[vx,vy],by simp[cx,cy],by simp only[a8];exact⟨rx,ry,trivial⟩⟩,?_⟩
   simp[Instr.build,zeroValue,typeInfo,l,m,bM underlying218,df n,o,df B,C,Instr.fill,cx,cy];simp[Value.cells]
  | [],f=>exact f.elim
  | [_],f=>exact f.2.2.elim
  | _::_::_::_,f=>exact f.2.2.2.2.elim
 .rename_i x;obtain⟨sx,g⟩:=h
  match qs,f with
  | [(a,vx)],f =>
   simp only[qy]at f;obtain⟨rfl,rx,_⟩:=f;have cx:=gV sx rx;obtain⟨i,l,m,v⟩:=fS z107;obtain⟨j,n,A,o⟩:=fS z22;obtain⟨k,B,H,C⟩:=fS z3;refine⟨_,.agg #[vx,.int .i64 0],g,by simp only[bH];exact⟨[vx,.int .i64 0],by simp[cx];rfl,by simp only[a8,bH];exact⟨rx,trivial,trivial⟩⟩,?_⟩
   simp[Instr.build,zeroValue,typeInfo,l,m,bM underlying107,df n,o,df B,C,Instr.fill,cx];simp[Value.cells]
  | [],f=>exact f.elim
  | _::_::_,f=>exact f.2.2.elim
 .rename_i x y;obtain⟨sx,sy,g⟩:=h
  match qs,f with
  | [(a,vx),(b,vy)],f =>
   simp only[qy]at f;obtain⟨rfl,rx,rfl,ry,_⟩:=f;obtain⟨D,E,rfl⟩:=gU sx rx;obtain⟨F,G,rfl⟩:=gU sy ry;obtain⟨i,l,m,v⟩:=fS z195;obtain⟨j,n,A,o⟩:=fS z50;refine⟨_,.agg #[D,E,F,G],g,by simp only[bH];exact⟨[.agg #[D,E],.agg #[F,G]],by simp[Value.cells],by simp only[a8];exact⟨rx,ry,trivial⟩⟩,?_⟩
   simp[Instr.build,zeroValue,typeInfo,l,m,bM xS,df n,o,Instr.fill,Value.cells]
  | [],f=>exact f.elim
  | [_],f=>exact f.2.2.elim
  | _::_::_::_,f=>exact f.2.2.2.2.elim
 .rename_i x y z;obtain⟨sx,sy,sz,g⟩:=h
  match qs,f with
  | [(a,vx),(b,vy),(c,vz)],f =>
   simp only[qy]at f;obtain⟨rfl,rx,rfl,ry,rfl,rz,_⟩:=f;have cx:=gV sx rx;have cy:=gV sy ry;have cz:=gV sz rz;obtain⟨i,l,m,v⟩:=fS z238;obtain⟨j,n,A,o⟩:=fS z2;refine⟨_,.agg #[vx,vy,vz],g,by simp only[bH];exact⟨[vx,vy,vz],by simp[cx,cy,cz],by simp only[a8];exact⟨rx,ry,rz,trivial⟩⟩,?_⟩
   simp[Instr.build,zeroValue,typeInfo,l,m,bM underlying238,df n,o,Instr.fill,cx,cy,cz];simp[Value.cells]
  | [],f=>exact f.elim
  | [_],f=>exact f.2.2.elim
  | [_,_],f=>exact f.2.2.2.2.elim
  | _::_::_::_::_,f=>exact f.2.2.2.2.2.2.elim
 .rename_i x y;obtain⟨sx,sy,g⟩:=h
  match qs,f with
  | [(a,vx),(b,vy)],f =>
   simp only[qy]at f;obtain⟨rfl,rx,rfl,ry,_⟩:=f;have cx:=gV sx rx;have cy:=gV sy ry;obtain⟨i,l,m,v⟩:=fS z160;obtain⟨j,n,A,o⟩:=fS z59;obtain⟨k,B,H,C⟩:=fS z52;refine⟨_,.agg #[vx,vy,.slice ae 0 0,.nilFunc],g,by simp only[bH];exact⟨[vx,vy,.slice ae 0 0,.nilFunc],by simp[cx,cy];rfl,by simp only[a8,bH];exact⟨rx,ry,trivial,trivial,trivial⟩⟩,?_⟩
   simp[Instr.build,zeroValue,typeInfo,l,m,bM underlying160,df n,o,df B,C,Instr.fill,cx,cy];simp[Value.cells]
  | [],f=>exact f.elim
  | [_],f=>exact f.2.2.elim
  | _::_::_::_,f=>exact f.2.2.2.2.elim
 .rename_i x y;obtain⟨sx,sy,g⟩:=h
  match qs,f with
  | [(a,vx),(b,vy)],f =>
   simp only[qy]at f;obtain⟨rfl,rx,rfl,ry,_⟩:=f;have cx:=gV sx rx;have cy:=gV sy ry;obtain⟨i,l,m,v⟩:=fS z202;obtain⟨j,n,A,o⟩:=fS z97;refine⟨_,.agg #[vx,vy],g,by simp only[bH];exact⟨[vx,vy],by simp[cx,cy],by simp only[a8];exact⟨rx,ry,trivial⟩⟩,?_⟩
   simp[Instr.build,zeroValue,typeInfo,l,m,bM underlying202,df n,o,Instr.fill,cx,cy];simp[Value.cells]
  | [],f=>exact f.elim
  | [_],f=>exact f.2.2.elim
  | _::_::_::_,f=>exact f.2.2.2.2.elim
 .rename_i x y z p q r s;obtain⟨sx,sy,sz,sp,sq,sr,ss,g⟩:=h
  match qs,f with
  | [(a,vx),(b,vy),(c,vz),(d,vp),(e,vr)],f =>
   simp only[qy]at f;obtain⟨rfl,rx,rfl,ry,rfl,rz,rfl,rp,rfl,rr,_⟩:=f;simp only[bH]at rp rr;obtain⟨ps,rfl,rp⟩:=rp;obtain⟨rs,rfl,rr⟩:=rr
   match ps,rs,rp,rr with
   | [vp,vq],[vr,vs],rp,rr =>
    simp only[a8]at rp rr;obtain⟨rp,rq,_⟩:=rp;obtain⟨rr,rs,_⟩:=rr;obtain⟨I,J,rfl⟩:=gU sx rx;obtain⟨L,N,rfl⟩:=gU sy ry;obtain⟨O,P,rfl⟩:=gU sz rz;obtain⟨Q,R,rfl⟩:=gU sp rp;obtain⟨S,T,rfl⟩:=gU sq rq;obtain⟨f1,U,rfl⟩:=gU sr rr;obtain⟨V,W,rfl⟩:=gU ss rs;obtain⟨i,l,m,v⟩:=fS z197;obtain⟨j,n,A,o⟩:=fS z50;obtain⟨k,B,H,C⟩:=fS z195;refine⟨_,.agg #[I,J,L,N,O,P,Q,R,S,T,f1,U,V,W],g,by
     simp only[bH];exact⟨[.agg #[I,J],.agg #[L,N],.agg #[O,P],.agg #[Q,R],.agg #[S,T],.agg #[f1,U],.agg #[V,W]],by simp[Value.cells],by simp only[a8];exact⟨rx,ry,rz,rp,rq,rr,rs,trivial⟩⟩,?_⟩
    simp[Instr.build,zeroValue,typeInfo,l,m,bM underlying197,df n,o,df B,C,Instr.fill,Value.cells]
   | [],_,rp,_=>simp[a8]at rp
   | [_],_,rp,_=>simp[a8]at rp
   | _::_::_::_,_,rp,_=>simp[a8]at rp
   | [_,_],[],_,rr=>simp[a8]at rr
   | [_,_],[_],_,rr=>simp[a8]at rr
   | [_,_],_::_::_::_,_,rr=>simp[a8]at rr
  | [],f=>exact f.elim
  | [_],f=>exact f.2.2.elim
  | [_,_],f=>exact f.2.2.2.2.elim
  | [_,_,_],f=>exact f.2.2.2.2.2.2.elim
  | [_,_,_,_],f=>exact f.2.2.2.2.2.2.2.2.elim
  | _::_::_::_::_::_::_,f=>exact f.2.2.2.2.2.2.2.2.2.2.elim
 .exact h.elim
theorem CD{w:World}{M:Nat->Prop}:∀(l:List AV) (vs:List Value),a8 w M l vs->∀(i:Nat) (z:AV),l[i]? = some z->∃v,vs[i]? = some v/\bH w M z v
 | [],_,_,i,z,h=>by simp at h
 | x::l,v::vs,a,0,z,h=>by simp only[a8]at a;simp at h;subst h;exact⟨v,sm,a.1⟩
 | x::l,v::vs,a,i+1,z,h=>by simp only[a8]at a;simp at h;obtain⟨u,b,c⟩:=CD l vs a.2 i z h;exact⟨u,by simpa using b,c⟩
 | _::_,[],a,_,_,_=>by simp[a8]at a
def BA(t:TypeId)(x i:AV)(K:AV->Prop):Prop:=match x,i with
 | .agg l,.int _ n=>(t=195/\∃p q,l=[p,q]/\ei 2 p/\ei 2 q/\(n=0∨n=1)/\K (if n=0 then p else q)) ∨
  ((t=238/\l.length=3∨t=239/\l.length=8)/\(∀z∈l,ei 1 z)/\(0<=n/\n<(l.length:Int))/\K (l.getD n.toNat .any))
 | _,_=>False
theorem MR{w:World}{M:Nat->Prop}:∀(l:List AV) (vs:List Value),(∀z∈l,ei 1 z)->a8 w M l vs->vs.flatMap (fun u=>u.cells.toList)=vs
 | [],[],_,_=>rfl
 | x::l,v::vs,b,a=>by
  simp only[a8]at a;simp only[ef,MR l vs (fun z c=>b z (ee _ c)) a.2,gV (b x (fB ..)) a.1];rfl
 | [],_::_,_,a=>by simp[a8]at a
 | _::_,[],_,a=>by simp[a8]at a
def H6(h:BA t x y K){w:World}{M:Nat->Prop}{vx vy:Value}(g:bH w M x vx)(i:bH w M y vy) :
  ∃z v,K z/\bH w M z v/\(Instr.index t vx vy).run ak w=.ok v w:=by
 unfold BA at h;split at h
 .rename_i l k n;simp only[bH]at g i;subst i;obtain⟨vs,rfl,a⟩:=g;rcases h with⟨rfl,p,q,rfl,sp,sq,r,d⟩|⟨s,u,⟨m,H⟩,d⟩
  .match vs,a with
   | [vp,vq],a =>
    simp only[a8]at a;obtain⟨rp,rq,_⟩:=a;obtain⟨A,B,rfl⟩:=gU sp rp;obtain⟨C,D,rfl⟩:=gU sq rq;obtain⟨j,b,E,c⟩:=fS z50;rcases r with rfl|rfl
    .refine⟨_,.agg #[A,B],d,by simpa using rp,?_⟩
     simp[Instr.index,asIntOf,bM xS,df b,c,part,isAgg,bM Qp,Value.cells]
    .refine⟨_,.agg #[C,D],d,by simpa using rq,?_⟩
     simp[Instr.index,asIntOf,bM xS,df b,c,part,isAgg,bM Qp,Value.cells]
   | [],a=>simp[a8]at a
   | [_],a=>simp[a8]at a
   | _::_::_::_,a=>simp[a8]at a
  .rw[MR l vs u a];have e:n.toNat<l.length:=om
   obtain⟨v,o,F⟩:=CD l vs a n.toNat (l.getD n.toNat .any) (by simp[dh,bE e])
   obtain⟨j,b,E,c⟩:=fS z2;refine⟨_,v,d,F,?_⟩;rcases s with⟨rfl,G⟩|⟨rfl,G⟩
   .have f:n<3:=om
    simp[Instr.index,asIntOf,bM underlying238,df b,c,part,isAgg,bM nB,m,f,o]
   .have f:n<8:=om
    simp[Instr.index,asIntOf,bM underlying239,df b,c,part,isAgg,bM nB,m,f,o]
 .exact h.elim
def D4(o:Oper)(O:Tm)(S:St)(K:AV->St->Prop):Prop:=match o.op with
 | .move x=>K (ev O x) S
 | .assign x=>K (ev O x) S
 | .pick c x y=>(match ev O c with
  | .bool t=>K (if t then ev O x else ev O y) S
  | _=>False)
 | .alloc t=>oT t S K
 | .box t x=>kJ t (ev O x) S K
 | .build t ps=>tp t (ps.toList.map fun p=>(p.1,ev O p.2)) (fun z=>K z S)
 | .buildSlice t n ps=>da t n (ps.toList.map fun p=>(p.1,ev O p.2)) S K
 | .load t x=>rI t (ev O x) S (fun z=>K z S)
 | .store t x y=>ti t (ev O x) (ev O y) S (fun S'=>K .any S')
 | .nilCheck x=>(match ev O x with
  | .ptr es b i=>K (.ptr es b i) S
  | .pat es y=>K (.pat es y) S
  | _=>False)
 | .binOp op t x y _=>H9 op t (ev O x) (ev O y) (fun z=>K z S)
 | .unOp op _ x=>RO op (ev O x) (fun z=>K z S)
 | .convert s d x=>AJ s d (ev O x) (fun z=>K z S)
 | .makeFunc (.func f) fi cs=>AG f (fi.toList.map (ev O)) (cs.toList.map (ev O)) (fun z=>K z S)
 | .makeSlice t x y=>lP t (ev O x) (ev O y) S K
 | .slice t x lo hi mx=>li t (ev O x) (lo.map (ev O)) (hi.map (ev O)) (mx.map (ev O)) (fun z=>K z S)
 | .fieldAddr t x f=>tn t (ev O x) f (fun z=>K z S)
 | .indexAddr t x i=>tj t (ev O x) (ev O i) (fun z=>K z S)
 | .index t x i=>BA t (ev O x) (ev O i) (fun z=>K z S)
 | .extract x i=>(match ev O x with
  | .tup l=>(match l[i]? with
   | some z=>K z S
   | ae=>False)
  | _=>False)
 | .call c=>xR O c S K
 | _=>False
def it{next:Act->World->Prop}(b:(execOp a.eval o).run ak w=.ok (.value v) w')(c:next (a.put o.dst v) w'):o.wp ak a w next Q:=by
 unfold Oper.wp;rw[b];exact c
def Gq{next:Act->World->Prop}(b:(execOp a.eval o).run ak w=.ok .skip w')(c:next (a.put o.dst undef) w'):o.wp ak a w next Q:=by
 unfold Oper.wp;rw[b];exact c
theorem rL{O:Tm}{S:St}{N:Nat}{a:Act}{w:World}(h:RT O S N a w):∀ps:List (Nat×Operand),qy w S.dom (ps.map fun p=>(p.1,ev O p.2)) (ps.map fun p=>(p.1,a.eval p.2))
 | []=>by simp[qy]
 | p::ps=>by simp only[iG,qy];exact⟨trivial,h.ev p.2,rL h ps⟩
theorem pH{O:Tm}{S:St}{N:Nat}{a:Act}{w:World}(h:RT O S N a w):∀ps:List Operand,a8 w S.dom (ps.map (ev O)) (ps.map a.eval)
 | []=>by simp[a8]
 | p::ps=>by simp only[iG,a8];exact⟨h.ev p,pH h ps⟩
theorem oF{w:World}{M:Nat->Prop}:∀(l l':List AV) (vs vs':List Value),a8 w M l vs->a8 w M l' vs'->a8 w M (l++l') (vs++vs')
 | [],_,[],_,_,h=>by simpa using h
 | x::l,l',v::vs,vs',h,h'=>by simp only[oG,a8]at h ⊢;exact⟨h.1,oF l l' vs vs' h.2 h'⟩
 | [],_,_::_,_,h,_=>by simp[a8]at h
 | _::_,_,[],_,h,_=>by simp[a8]at h
theorem uW{w:World}{M:Nat->Prop}:∀(l:List AV) (vs:List Value),a8 w M l vs->∀(i:Nat) (z:AV),l[i]? = some z->∃v,vs[i]? = some v/\bH w M z v
 | [],_,_,i,z,h=>by simp at h
 | x::l,v::vs,a,0,z,h=>by simp only[a8]at a;simp at h;subst h;exact⟨v,sm,a.1⟩
 | x::l,v::vs,a,i+1,z,h=>by simp only[a8]at a;simp at h;obtain⟨u,b,c⟩:=uW l vs a.2 i z h;exact⟨u,by simpa using b,c⟩
 | _::_,[],a,_,_,_=>by simp[a8]at a
def pG(h:RT O S N a w)(x:Option Operand):tu w S.dom (x.map (ev O)) (x.map a.eval):=by
 cases x with
 | none=>simp[tu]
 | some x=>simp only[du,tu];exact h.ev x
def Ch(a:Act)(ps:Array (Nat×Operand)):(ps.map fun(x:Nat×Operand)=>(x.1,a.eval x.2))=(ps.toList.map fun p=>(p.1,a.eval p.2)).toArray:=by apply gL;simp
def Af(b:o.op=.build t ps){w:World}:(execOp a.eval o).run ak w=((Instr.build t (ps.toList.map fun p=>(p.1,a.eval p.2)).toArray).run ak w).andThen fun v w'=>.ok (.value v) w':=by
 rw[<-Ch];unfold execOp;rw[b];simp
def qE(b:o.op=.buildSlice t n ps){w:World}:(execOp a.eval o).run ak w=((Instr.buildSlice t n (ps.toList.map fun p=>(p.1,a.eval p.2)).toArray).run ak w).andThen fun v w'=>.ok (.value v) w':=by
 rw[<-Ch];unfold execOp;rw[b];simp
def Next_(K:AV->St->Prop)(S:St)(a:Act)(d:Option Nat)(w:World)(next:Act->World->Prop):Prop:=∀z v w' S',K z S'->bH w' S'.dom z v->eA w' S'->dA S.dom S'.dom w w'->next (a.put d v) w'
def uP{cs:Array Operand}(h:AG f (fi.toList.map (ev O)) (cs.toList.map (ev O)) K){N:Nat}{a:Act}{w:World}(d:RT O S N a w):∃z,K z/\bH w S.dom z (.func (.func f) (fi.map a.eval) (cs.map a.eval)):=by
 unfold AG at h;split at h
 .rename_i b;have b:fi=#[]:=by apply gL;simpa using b
  refine⟨_,h,?_⟩;simp only[bH];exact⟨cs.toList.map a.eval,by rw[b];congr 1<;>apply gL<;>simp,pH d _⟩
 .rename_i x l b;have c:cs=#[]:=by apply gL;simpa using h.1
  refine⟨_,h.2,?_⟩;simp only[bH];exact⟨fi.toList.map a.eval,by rw[c];congr 1<;>apply gL<;>simp,by rw[<-b];exact pH d _⟩
def pE{K:AV->St->Prop}(h:D4 o O S K){N:Nat}{a:Act}{w:World}(j:RT O S N a w){next:Act->World->Prop}{Q:Exit->Act->World->Prop}
  (C:Next_ K S a o.dst w next):o.wp ak a w next Q:=by
 have pure_:∀(s:Sem Value),(execOp a.eval o=do let x <-s;pure (.value x))->(∃z u,K z S/\bH w S.dom z u/\s.run ak w=.ok u w)->o.wp ak a w next Q:=by
  intro s T ⟨z,u,q,A,B⟩;exact it (by rw[T];simp[B]) (C z u w S q A j.st (dA.refl _ _))
 have goes_:∀(s:Sem Value),(execOp a.eval o=do let x <-s;pure (.value x))->Ei s w S K->o.wp ak a w next Q:=by
  intro s T ⟨z,u,w',S',q,A,B,J,U⟩;exact it (by rw[T];simp[U]) (C z u w' S' q A B J)
 unfold D4 at h;split at h
 .rename_i x k;exact it (v:=a.eval x) (by simp[execOp,k]) (C _ _ w S h (j.ev x) j.st (dA.refl _ _))
 .rename_i x k;exact it (v:=a.eval x) (by simp[execOp,k]) (C _ _ w S h (j.ev x) j.st (dA.refl _ _))
 .rename_i c x y k;have E:=j.ev c
  cases V:ev O c<;>rw[V]at h E<;>try exact h.elim
  rename_i t;simp only[bH]at E;refine it (v:=if t then a.eval x else a.eval y) (by simp[execOp,k,E,asBool]) (C _ _ w S h ?_ j.st (dA.refl _ _))
  cases t
  .exact j.ev y
  .exact j.ev x
 .rename_i t k;exact goes_ (Instr.alloc t true (.tuple #[])) (by simp[execOp,k]) (D7 h j.st)
 .rename_i t x k;exact goes_ (Instr.box t (a.eval x)) (by simp[execOp,k]) (H8 h j.st (j.ev x))
 .rename_i t ps k;obtain⟨z,u,q,A,B⟩:=uS h (rL j ps.toList);refine it (v:=u) ?_ (C z u w S q A j.st (dA.refl _ _));rw[Af k,B];rfl
 .rename_i t n ps k;obtain⟨z,u,w',S',q,A,B,J,U⟩:=uT h j.st (rL j ps.toList);refine it (v:=u) ?_ (C z u w' S' q A B J);rw[qE k,U];rfl
 .rename_i t x k;exact pure_ (Instr.loadAt t (a.eval x)) (by simp[execOp,k]) (rH h j.st (j.ev x))
 .rename_i t x y k;obtain⟨w',S',q,A,B,J⟩:=D3 h j.st (j.ev x) (j.ev y);exact Gq (by simp[execOp,k,J]) (C _ _ w' S' q (by simp[bH]) A B)
 .rename_i x k;have m:=j.ev x
  cases F:ev O x<;>rw[F]at h m<;>try exact h.elim
  .have L:=m;simp only[bH]at m;exact it (v:=a.eval x) (by simp[execOp,k,m]) (C _ _ w S h L j.st (dA.refl _ _))
  .have L:=m;simp only[bH]at m;obtain⟨b,off,u,m,_⟩:=m;exact it (v:=a.eval x) (by simp[execOp,k,m]) (C _ _ w S h L j.st (dA.refl _ _))
 .rename_i op t x y _ k;have:=AK (ty:=t) h (j.ev x) (j.ev y) x y;exact pure_ (do eqGuard op t x y (a.eval x) (a.eval y);binOp op t (a.eval x) (a.eval y)) (by simp[execOp,k]) this
 .rename_i op t x k;exact pure_ (Op.unary op (a.eval x)) (by simp[execOp,k]) (Cz h (j.ev x))
 .rename_i s d x k;exact pure_ (convert s d (a.eval x)) (by simp[execOp,k]) (xQ h (j.ev x))
 .rename_i f fi cs k;obtain⟨z,q,A⟩:=uP h j;exact it (v:=.func (.func f) (fi.map a.eval) (cs.map a.eval)) (by simp[execOp,k,Instr.makeFunc]) (C _ _ w S q A j.st (dA.refl _ _))
 .rename_i t x y k;exact goes_ (Instr.makeSlice t (a.eval x) (a.eval y)) (by simp[execOp,k]) (FR h j.st (j.ev x) (j.ev y))
 .rename_i t x lo Y mx k;exact pure_ (Instr.sliceAt t (a.eval x) (lo.map a.eval) (Y.map a.eval) (mx.map a.eval)) (by simp[execOp,k]) (uO h (j.ev x) (pG j lo) (pG j Y) (pG j mx))
 .rename_i t x f k;exact pure_ (Instr.fieldAt t (a.eval x) f) (by simp[execOp,k]) (uR h (j.ev x))
 .rename_i t x i k;exact pure_ (Instr.indexAt t (a.eval x) (a.eval i)) (by simp[execOp,k]) (uQ h (j.ev x) (j.ev i))
 .rename_i t x i k;exact pure_ (Instr.index t (a.eval x) (a.eval i)) (by simp[execOp,k]) (H6 h (j.ev x) (j.ev i))
 .rename_i x i k;have m:=j.ev x
  cases F:ev O x<;>rw[F]at h m<;>try exact h.elim
  rename_i l;simp only at h
  cases W:l[i]? with
  | none=>rw[W]at h;exact h.elim
  | some z =>
   rw[W]at h;simp only[bH]at m;obtain⟨vs,m,G⟩:=m;obtain⟨v,hv,hz⟩:=uW l vs G i z W;exact it (v:=v) (by simp[execOp,k,Instr.extract,m,hv]) (C _ _ w S h hz j.st (dA.refl _ _))
 .rename_i c k;unfold xR at h;split at h
  .rename_i f Z;have H:=j.ev f
   cases F:ev O f<;>rw[F]at h H<;>try exact h.elim
   .rename_i g l;simp only[bH]at H;obtain⟨vs,M,G⟩:=H;obtain⟨X,P⟩:=h;have I:(execOp a.eval o).run ak w=.ok (.enter g (c.args.map a.eval++vs.toArray)) w:=by
     simp[execOp,k,resolve,Z,Deferred.ofValue,M,invoke,My X]
    unfold Oper.wp;rw[I];have hargs:(c.args.map a.eval++vs.toArray)=(c.args.toList.map a.eval++vs).toArray:=by apply gL;simp
    rw[hargs];refine(P w _ j.st (oF _ _ _ _ (pH j _) G)).mono ?_;rintro e w' ⟨v,r,S',rfl,q,A,B,J⟩;exact C r v w' S' q A B J
   .rename_i g l;simp only[bH]at H;obtain⟨vs,M,G⟩:=H;obtain⟨X,P⟩:=h;have I:(execOp a.eval o).run ak w=.ok (.enter g (vs.toArray++c.args.map a.eval)) w:=by
     simp[execOp,k,resolve,Z,Deferred.ofValue,M,invoke,My X]
    unfold Oper.wp;rw[I];have hargs:(vs.toArray++c.args.map a.eval)=(vs++c.args.toList.map a.eval).toArray:=by apply gL;simp
    rw[hargs];refine(P w _ j.st (oF _ _ _ _ G (pH j _))).mono ?_;rintro e w' ⟨v,r,S',rfl,q,A,B,J⟩;exact C r v w' S' q A B J
  .rename_i E;split at h
   .rename_i x t m R;have p:c.args=#[x]:=by apply gL;simpa using m
    have D:c.argTypes=#[t]:=by apply gL;simpa using R
    exact pure_ (Builtin.len_ #[t] o.type #[a.eval x]) (by simp[execOp,k,resolve,E,invoke,builtin,p,D]) (AH h (j.ev x))
   .exact h.elim
  .rename_i E;split at h
   .rename_i x y m;have p:c.args=#[x,y]:=by apply gL;simpa using m
    exact pure_ (Builtin.max_ c.argTypes o.type #[a.eval x,a.eval y]) (by simp[execOp,k,resolve,E,invoke,builtin,p]) (H4 h (j.ev x) (j.ev y) _ _)
   .exact h.elim
  .rename_i E;split at h
   .rename_i s x t t' m R;have p:c.args=#[s,x]:=by apply gL;simpa using m
    have D:c.argTypes=#[t,t']:=by apply gL;simpa using R
    split at h
    .rename_i B;subst B;exact goes_ (Builtin.append_ #[t,3] o.type #[a.eval s,a.eval x]) (by simp[execOp,k,resolve,E,invoke,builtin,p,D]) (AL h j.st (j.ev s) (j.ev x))
    .exact goes_ (Builtin.append_ #[t,t'] o.type #[a.eval s,a.eval x]) (by simp[execOp,k,resolve,E,invoke,builtin,p,D]) (BB h j.st (j.ev s) (j.ev x))
   .exact h.elim
  .rename_i E;split at h
   .rename_i s x t t' m R;have p:c.args=#[s,x]:=by apply gL;simpa using m
    have D:c.argTypes=#[t,t']:=by apply gL;simpa using R
    exact goes_ (Builtin.copy_ #[t,t'] o.type #[a.eval s,a.eval x]) (by simp[execOp,k,resolve,E,invoke,builtin,p,D]) (FT h j.st (j.ev s) (j.ev x))
   .exact h.elim
  .exact h.elim
 .exact h.elim

def Iz(ops:Array Oper)(O:Tm)(j:Nat):AV:=match (ops[j]?).bind (·.dst)with
 | some d=>O d
 | ae=>.any
def Js(ops:Array Oper):List Oper->Tm->St->(Tm->St->Prop)->Prop
 | [],O,S,K=>K O S
 | o::l,O,S,K=>(match o.guard with
  | ae=>D4 o O S (fun z S'=>Js ops l (O.put o.dst z) S' K)
  | some (j,want)=>(match Iz ops O j with
   | .bool b=>(b=want->D4 o O S (fun z S'=>Js ops l (O.put o.dst z) S' K))/\(b=!want->Js ops l (O.put o.dst .any) S K)
   | _=>False))
def xH(N:Nat)(l:List Oper):Bool:=l.all fun o=>match o.dst with
 | some d=>decide (d<N)
 | ae=>true
def Hb(h:xH N (o::l)=true):(∀k,o.dst=some k->k<N)/\xH N l=true:=by
 simp only[xH,List.all_cons,cU]at h;refine⟨fun k b=>?_,h.2⟩;have a:=h.1;rw[b]at a;simpa using a
def BS(g:RT O S N a w){j:Nat}{b:Bool}(h:Iz ops O j=.bool b):yielded ops a.tmps j=some b:=by
 unfold Iz at h
 cases e:(ops[j]?).bind (·.dst)with
 | none=>rw[e]at h;cases h
 | some d =>
  rw[e]at h;have c:=g.tm d;simp only at h;rw[h]at c;simp only[bH]at c;unfold yielded;rw[e];simp only[dQ]
  cases f:a.tmps[d]? with
  | none=>simp[cR,f,undef]at c
  | some v =>
   have:v=.bool b:=by simpa [cR,f]using c
   subst this;rfl
theorem wF{ops:Array Oper}{N:Nat}{Q:Exit->Act->World->Prop}{K:Tm->St->Prop}:∀(l:List Oper) {O:Tm} {S:St} {a:Act} {w:World},Js ops l O S K->RT O S N a w->xH N l=true ->
  (∀O' S' a' w',K O' S'->RT O' S' N a' w'->dA S.dom S'.dom w w'->Q .normal a' w')->wpList ak ops Q l a w
 | [],O,S,a,w,h,d,_,i=>i O S a w h d (dA.refl _ _)
 | o::l,O,S,a,w,h,d,r,i=>by
  obtain⟨e,f⟩:=Hb r;have run:D4 o O S (fun z S'=>Js ops l (O.put o.dst z) S' K)->o.wp ak a w (wpList ak ops Q l) Q:=fun s =>
   pE s d (fun z v w' S' t u x n=>wF l t (d.put n x e u) f (fun O' S'' a' w'' y A B=>i O' S'' a' w'' y A (n.trans B)))
  unfold Js at h;unfold wpList
  cases c:o.guard with
  | none =>
   rw[c]at h;rw[aj (by simp[o5,c])]
   exact a9 (run h)
  | some p =>
   obtain⟨j,want⟩:=p;rw[c]at h;simp only at h
   cases q:Iz ops O j<;>rw[q]at h<;>try exact h.elim
   rename_i b;have g:=BS d q;by_cases k:b=want
   .rw[aj (by simp[o5,c,g,k])]
    exact a9 (run (h.1 k))
   .rw[ah (by simp[o5,c,g,k])]
    have m:b=!want:=by cases b<;>cases want<;>simp_all
    exact wF l (h.2 m) (d.put (dA.refl _ _) d.st e (by simp[bH])) f i
def wH{K:AV->St->Prop}(a:∀x,x∈o.op.operands.toList->ev O x=ev O' x)(h:D4 o O S K):D4 o O' S K:=by
 have j:∀l:List Operand,(∀x∈l,ev O x=ev O' x)->l.map (ev O)=l.map (ev O'):=fun l v=>lQ v;unfold D4 at h ⊢;split at h
 .rename_i x b;rw[b]at a;simp only[Op.operands]at a;rw[<-a x sm];exact h
 .rename_i x b;rw[b]at a;simp only[Op.operands]at a;rw[<-a x sm];exact h
 .rename_i c x y b;rw[b]at a;simp only[Op.operands]at a;rw[<-a c sm,<-a x sm,<-a y sm];exact h
 .rename_i t b;exact h
 .rename_i t x b;rw[b]at a;simp only[Op.operands]at a;rw[<-a x sm];exact h
 .rename_i t ps b;rw[b]at a;simp only[Op.operands]at a;have:(ps.toList.map fun p=>(p.1,ev O p.2))=ps.toList.map fun p=>(p.1,ev O' p.2):=lQ fun p q=>by rw[a p.2 (by simp;exact⟨p.1,by simpa using q⟩)]
  rw[<-this];exact h
 .rename_i t n ps b;rw[b]at a;simp only[Op.operands]at a;have:(ps.toList.map fun p=>(p.1,ev O p.2))=ps.toList.map fun p=>(p.1,ev O' p.2):=lQ fun p q=>by rw[a p.2 (by simp;exact⟨p.1,by simpa using q⟩)]
  rw[<-this];exact h
 .rename_i t x b;rw[b]at a;simp only[Op.operands]at a;rw[<-a x sm];exact h
 .rename_i t x y b;rw[b]at a;simp only[Op.operands]at a;rw[<-a x sm,<-a y sm];exact h
 .rename_i x b;rw[b]at a;simp only[Op.operands]at a;rw[<-a x sm];exact h
 .rename_i op t x y _ b;rw[b]at a;simp only[Op.operands]at a;rw[<-a x sm,<-a y sm];exact h
 .rename_i op t x b;rw[b]at a;simp only[Op.operands]at a;rw[<-a x sm];exact h
 .rename_i s d x b;rw[b]at a;simp only[Op.operands]at a;rw[<-a x sm];exact h
 .rename_i f fi cs b;rw[b]at a;simp only[Op.operands]at a;rw[<-j cs.toList (fun x e=>a x (by simp;exact aR (by simpa using e))),<-j fi.toList (fun x e=>a x (by simp;exact a9 (by simpa using e)))];exact h
 .rename_i t x y b;rw[b]at a;simp only[Op.operands]at a;rw[<-a x sm,<-a y sm];exact h
 .rename_i t x lo w mx b;rw[b]at a;simp only[Op.operands]at a;have k:∀y:Option Operand,(∀z,y=some z->ev O z=ev O' z)->y.map (ev O)=y.map (ev O'):=fun y A=>by cases y<;>simp[A]
  rw[<-a x sm,<-k lo (fun z m=>a z (by subst m;simp)),<-k w (fun z m=>a z (by subst m;simp)),<-k mx (fun z m=>a z (by subst m;simp))];exact h
 .rename_i t x f b;rw[b]at a;simp only[Op.operands]at a;rw[<-a x sm];exact h
 .rename_i t x i b;rw[b]at a;simp only[Op.operands]at a;rw[<-a x sm,<-a i sm];exact h
 .rename_i t x i b;rw[b]at a;simp only[Op.operands]at a;rw[<-a x sm,<-a i sm];exact h
 .rename_i x i b;rw[b]at a;simp only[Op.operands]at a;rw[<-a x sm];exact h
 .rename_i c b;rw[b]at a;simp only[Op.operands,Call.operands]at a;have g:∀x∈c.args.toList,ev O x=ev O' x:=fun x e=>a x (by simp;exact aR (by simpa using e))
  unfold xR at h ⊢;split at h
  .rename_i f B;rw[B]at a;simp only at a;rw[<-a f sm,<-j _ g];exact h
  .rename_i r;split at h
   .rename_i x t e u;rw[<-g x (by rw[e];simp)];exact h
   .exact h.elim
  .rename_i r;split at h
   .rename_i x y e;rw[<-g x (by rw[e];simp),<-g y (by rw[e];simp)];exact h
   .exact h.elim
  .rename_i r;split at h
   .rename_i s x t t' e u;rw[<-g x (by rw[e];simp),<-g s (by rw[e];simp)];exact h
   .exact h.elim
  .rename_i r;split at h
   .rename_i s x t t' e u;rw[<-g x (by rw[e];simp),<-g s (by rw[e];simp)];exact h
   .exact h.elim
  .exact h.elim
 .exact h.elim

def mJ:TypeId->Option eo
 | 50=>some ⟨50,2,1,fun _=>.big 0⟩
 | 52=>some ⟨52,1,1,fun _=>.nil⟩
 | 167=>some ⟨167,2,2,fun _=>.big 0⟩
 | 218=>some ⟨218,1,2,fun j=>if j=0 then .nil else .int .i64 0⟩
 | _=>ae
def KJ(h:mJ t=some X):∃zc:Array Value,X.ty=t/\(∀w,(Instr.alloc t true (.tuple #[])).run ak w=.ok (.pointer (some ⟨w.heap.size,0,ae⟩)) (w.alloc (.cells zc t))) /\
  X.es*X.n<=zc.size/\(∀w M j,j<X.n->∃u,reads zc (X.es*j) X.es u/\bH w M (X.g j) u)/\∀(k:Nat) (y:Value),zc[k]? = some y->lO y:=by
 have key:∀(z':Value) (s b:Nat),mi ak t=some (z',s,b)->∃i,ak.info? t=some i/\i.zero=some z':=by
  intro z' s b e;unfold mi at e
  cases f:ak.info? t with
  | none=>rw[f]at e;simp at e
  | some i =>
   rw[f]at e;simp only[dQ,eX,jX]at e;obtain⟨z2,m,o,G,H⟩:=e;exact⟨i,rfl,by rw[m,o]⟩
 have fin:∀(l:List AV) (vs:List Value) (z:Value) (s b:Nat),mi ak t=some (z,s,b)->z.cells=(vs.flatMap (fun u=>u.cells.toList)).toArray->(∀w M,a8 w M l vs)->(∀y∈l,ei X.es y)->X.ty=t->X.n=l.length->(∀j,j<l.length->X.g j=l.getD j .any) ->
   ∃zc:Array Value,X.ty=t/\(∀w,(Instr.alloc t true (.tuple #[])).run ak w=.ok (.pointer (some ⟨w.heap.size,0,ae⟩)) (w.alloc (.cells zc t))) /\
   X.es*X.n<=zc.size/\(∀w M j,j<X.n->∃u,reads zc (X.es*j) X.es u/\bH w M (X.g j) u)/\∀(k:Nat) (y:Value),zc[k]? = some y->lO y:=by
  intro l vs z s b A p r d B x C;obtain⟨i,f,v⟩:=key z s b A;refine⟨z.cells,B,fun w=>Cb f v w,?_,fun w M j a=>?_,fun k y c=>?_⟩
  .obtain⟨_,D,_,_⟩:=iO l vs (r default (fun _=>False)) d;rw[p,co,D,x];exact ag _
  .obtain⟨_,_,_,E⟩:=iO l vs (r w M) d;rw[x]at a;obtain⟨u,m,o⟩:=E j a;refine⟨u,?_,by rw[C j a];exact m⟩
   have:=o z.cells 0 (fun q _=>by rw[p];simp)
   simpa using this
  .obtain⟨_,_,F,_⟩:=iO l vs (r default (fun _=>False)) d;rw[p,fu]at c;exact(F y (gO c)).2
 have zb:∀w M,bH w M (.big 0) (.agg #[.bool false,.slice ae 0 0]):=fun w M=>by simp only[bH];exact ew.zero w
 unfold mJ at h;split at h
 .cases h
  exact fin [.big 0] [.agg #[.bool false,.slice ae 0 0]] (.agg #[.bool false,.slice ae 0 0]) 2 32 kr rfl (fun w M=>by simp only[a8];exact⟨zb w M,trivial⟩) (fun y c=>by simp at c;subst c;simp[ei]) rfl rfl (fun j a=>by simp at a;subst a;rfl)
 .cases h
  exact fin [.nil] [.slice ae 0 0] (.slice ae 0 0) 1 24 kr rfl (fun w M=>by simp[a8,bH]) (fun y c=>by simp at c;subst c;simp[ei]) rfl rfl (fun j a=>by simp at a;subst a;rfl)
 .cases h
  exact fin (cn 2 (.big 0)) (cn 2 (.agg #[.bool false,.slice ae 0 0])) (.agg #[.bool false,.slice ae 0 0,.bool false,.slice ae 0 0]) 4 64 kr rfl (fun w M=>ku (zb w M) 2) (fun y c=>by rw[iH c];simp[ei]) rfl rfl
   (fun j a=>(Ab (by rw[ob]at a;exact a) _ _).symm)
 .cases h
  exact fin [.nil,.int .i64 0] [.slice ae 0 0,.int .i64 0] (.agg #[.slice ae 0 0,.int .i64 0]) 2 32 kr rfl (fun w M=>by simp[a8,bH]) (fun y c=>by simp at c;rcases c with rfl|rfl<;>simp[ei]) rfl rfl
   (fun j a=>by match j with
    | 0=>rfl
    | 1=>rfl
    | j+2=>exact absurd a (by simp only[cK,iq];omega))
 .cases h
mutual
def ql:AV->Bool
 | .int ..=>true
 | .bool _=>true
 | .big _=>true
 | .nil=>true
 | .sl ..=>true
 | .ptr ..=>true
 | .mag _=>true
 | .fp ..=>true
 | .bset _=>true
 | .any=>true
 | .nfn=>true
 | .mfn _ l=>Fa l
 | .tup l=>Fa l
 | .agg l=>Fa l
 | .fn _ l=>Fa l
 | .lst ..=>false
 | .pat ..=>false
def Fa:List AV->Bool
 | []=>true
 | x::l=>ql x&&Fa l
end
mutual
theorem tZ{w:World}{M M':Nat->Prop}:∀{x:AV} {v:Value},ql x=true->bH w M x v->bH w M' x v
 | .int ..,v,_,a=>by simpa [bH]using a
 | .bool _,v,_,a=>by simpa [bH]using a
 | .big _,v,_,a=>by simpa [bH]using a
 | .nil,v,_,a=>by simpa [bH]using a
 | .sl ..,v,_,a=>by simpa [bH]using a
 | .ptr ..,v,_,a=>by simpa [bH]using a
 | .mag _,v,_,a=>by simpa [bH]using a
 | .fp ..,v,_,a=>by simpa [bH]using a
 | .bset _,v,_,a=>by simpa [bH]using a
 | .any,v,_,a=>by simp[bH]
 | .nfn,v,_,a=>by simpa [bH]using a
 | .mfn f l,v,h,a=>by
  simp only[ql]at h;simp only[bH]at a ⊢;obtain⟨vs,b,c⟩:=a;exact⟨vs,b,rj h c⟩
 | .tup l,v,h,a=>by
  simp only[ql]at h;simp only[bH]at a ⊢;obtain⟨vs,b,c⟩:=a;exact⟨vs,b,rj h c⟩
 | .agg l,v,h,a=>by
  simp only[ql]at h;simp only[bH]at a ⊢;obtain⟨vs,b,c⟩:=a;exact⟨vs,b,rj h c⟩
 | .fn f l,v,h,a=>by
  simp only[ql]at h;simp only[bH]at a ⊢;obtain⟨vs,b,c⟩:=a;exact⟨vs,b,rj h c⟩
 | .lst ..,v,h,_=>by simp[ql]at h
 | .pat ..,v,h,_=>by simp[ql]at h
theorem rj{w:World}{M M':Nat->Prop}:∀{l:List AV} {vs:List Value},Fa l=true->a8 w M l vs->a8 w M' l vs
 | [],[],_,_=>by simp[a8]
 | x::l,v::vs,h,a=>by
  simp only[Fa,cU]at h;simp only[a8]at a ⊢;exact⟨tZ h.1 a.1,rj h.2 a.2⟩
 | [],_::_,_,a=>by simp[a8]at a
 | _::_,[],_,a=>by simp[a8]at a
end
def BH:Nat->Prop:=fun _=>False
def E0:Op->Bool
 | .move _=>true
 | .assign _=>true
 | .pick ..=>true
 | .build ..=>true
 | .load ..=>true
 | .nilCheck _=>true
 | .binOp ..=>true
 | .unOp ..=>true
 | .convert ..=>true
 | .makeFunc ..=>true
 | .slice ..=>true
 | .fieldAddr ..=>true
 | .indexAddr ..=>true
 | .extract ..=>true
 | .call { callee:=.builtin .len,.. }=>true
 | _=>false
def uX(f:Nat)(args:List AV)(S:St)(z:AV):Prop :=
 ∀(w:World) (vs:List Value),eA w S->a8 w S.dom args vs->Calls ak f vs.toArray w (fun e w'=>∃v,e=.returned v/\bH w' S.dom z v/\dA BH BH w w')
def BM(o:Oper)(O:Tm)(S:St)(z:AV):Prop:=(E0 o.op=true/\D4 o O S (fun z' S'=>z'=z/\S'=S)) ∨
 (match o.op with
 | .call c=>(match c.callee with
  | .value f=>(match ev O f with
   | .fn f l=>((11<=f/\f<270)/\f≠252/\f≠253)/\uX f (c.args.toList.map (ev O)++l) S z
   | _=>False)
  | _=>False)
 | .buildSlice t n ps=>eN t n (ps.toList.map fun p=>(p.1,ev O p.2)) z
 | _=>False)
def M4(j:E0 o.op=true){O:Tm}{S:St}{K:AV->St->Prop}(h:D4 o O S K){N:Nat}{a:Act}{w:World}(g:RT O S N a w) :
  ∃z v,K z S/\bH w S.dom z v/\(execOp a.eval o).run ak w=.ok (.value v) w:=by
 have pure_:∀(s:Sem Value),(execOp a.eval o=do let x <-s;pure (.value x))->(∃z u,K z S/\bH w S.dom z u/\s.run ak w=.ok u w)->∃z v,K z S/\bH w S.dom z v/\(execOp a.eval o).run ak w=.ok (.value v) w:=by
  intro s J ⟨z,u,r,A,C⟩;exact⟨z,u,r,A,by rw[J];simp[C]⟩
 unfold D4 at h;split at h
 .rename_i x e;exact⟨_,_,h,g.ev x,by simp[execOp,e]⟩
 .rename_i x e;exact⟨_,_,h,g.ev x,by simp[execOp,e]⟩
 .rename_i c x y e;have B:=g.ev c
  cases D:ev O c<;>rw[D]at h B<;>try exact h.elim
  rename_i t;simp only[bH]at B;refine⟨_,if t then a.eval x else a.eval y,h,?_,by simp[execOp,e,B,asBool]⟩
  cases t
  .exact g.ev y
  .exact g.ev x
 .rename_i t e;rw[e]at j;simp[E0]at j
 .rename_i t x e;rw[e]at j;simp[E0]at j
 .rename_i t ps e;obtain⟨z,u,r,A,C⟩:=uS h (rL g ps.toList);exact⟨z,u,r,A,by rw[Af e,C];rfl⟩
 .rename_i t n ps e;rw[e]at j;simp[E0]at j
 .rename_i t x e;exact pure_ (Instr.loadAt t (a.eval x)) (by simp[execOp,e]) (rH h g.st (g.ev x))
 .rename_i t x y e;rw[e]at j;simp[E0]at j
 .rename_i x e;have k:=g.ev x
  cases p:ev O x<;>rw[p]at h k<;>try exact h.elim
  .have q:=k;simp only[bH]at k;exact⟨_,a.eval x,h,q,by simp[execOp,e,k]⟩
  .have q:=k;simp only[bH]at k;obtain⟨b,off,u,k,_⟩:=k;exact⟨_,a.eval x,h,q,by simp[execOp,e,k]⟩
 .rename_i op t x y _ e;have:=AK (ty:=t) h (g.ev x) (g.ev y) x y;exact pure_ (do eqGuard op t x y (a.eval x) (a.eval y);binOp op t (a.eval x) (a.eval y)) (by simp[execOp,e]) this
 .rename_i op t x e;exact pure_ (Op.unary op (a.eval x)) (by simp[execOp,e]) (Cz h (g.ev x))
 .rename_i s d x e;exact pure_ (convert s d (a.eval x)) (by simp[execOp,e]) (xQ h (g.ev x))
 .rename_i f fi cs e;obtain⟨z,r,A⟩:=uP h g;exact⟨_,.func (.func f) (fi.map a.eval) (cs.map a.eval),r,A,by simp[execOp,e,Instr.makeFunc]⟩
 .rename_i t x y e;rw[e]at j;simp[E0]at j
 .rename_i t x lo I mx e;exact pure_ (Instr.sliceAt t (a.eval x) (lo.map a.eval) (I.map a.eval) (mx.map a.eval)) (by simp[execOp,e]) (uO h (g.ev x) (pG g lo) (pG g I) (pG g mx))
 .rename_i t x f e;exact pure_ (Instr.fieldAt t (a.eval x) f) (by simp[execOp,e]) (uR h (g.ev x))
 .rename_i t x i e;exact pure_ (Instr.indexAt t (a.eval x) (a.eval i)) (by simp[execOp,e]) (uQ h (g.ev x) (g.ev i))
 .rename_i t x i e;rw[e]at j;simp[E0]at j
 .rename_i x i e;have k:=g.ev x
  cases p:ev O x<;>rw[p]at h k<;>try exact h.elim
  rename_i l;simp only at h
  cases E:l[i]? with
  | none=>rw[E]at h;exact h.elim
  | some z =>
   rw[E]at h;simp only[bH]at k;obtain⟨vs,k,F⟩:=k;obtain⟨v,L,M⟩:=uW l vs F i z E;exact⟨_,v,h,M,by simp[execOp,e,Instr.extract,k,L]⟩
 .rename_i c e;unfold xR at h;split at h
  .rename_i f m;obtain⟨ce,ar,at_⟩:=c;simp only at m;subst m;rw[e]at j;simp[E0]at j
  .rename_i B;split at h
   .rename_i x t k P;have G:c.args=#[x]:=by apply gL;simpa using k
    have H:c.argTypes=#[t]:=by apply gL;simpa using P
    exact pure_ (Builtin.len_ #[t] o.type #[a.eval x]) (by simp[execOp,e,resolve,B,invoke,builtin,G,H]) (AH h (g.ev x))
   .exact h.elim
  .rename_i m;obtain⟨ce,ar,at_⟩:=c;simp only at m;subst m;rw[e]at j;simp[E0]at j
  .rename_i m;obtain⟨ce,ar,at_⟩:=c;simp only at m;subst m;rw[e]at j;simp[E0]at j
  .rename_i m;obtain⟨ce,ar,at_⟩:=c;simp only at m;subst m;rw[e]at j;simp[E0]at j
  .exact h.elim
 .exact h.elim
def CN(h:BM o O S z){N:Nat}{a:Act}{w:World}(d:RT O S N a w){next:Act->World->Prop}{Q:Exit->Act->World->Prop}
  (k:∀v w',bH w' S.dom z v->dA BH BH w w'->next (a.put o.dst v) w'):o.wp ak a w next Q:=by
 rcases h with⟨y,h⟩|h
 .obtain⟨z',v,⟨rfl,_⟩,i,m⟩:=M4 y h d;exact it m (k v w i (dA.refl _ _))
 .split at h
  .rename_i c p;split at h
   .rename_i f A;have b:=d.ev f
    cases q:ev O f<;>rw[q]at h b<;>try exact h.elim
    rename_i g l;simp only[bH]at b;obtain⟨vs,r,s⟩:=b;obtain⟨B,u⟩:=h;have j:(execOp a.eval o).run ak w=.ok (.enter g (c.args.map a.eval++vs.toArray)) w:=by
     simp[execOp,p,resolve,A,Deferred.ofValue,r,invoke,My B]
    unfold Oper.wp;rw[j];have hargs:(c.args.map a.eval++vs.toArray)=(c.args.toList.map a.eval++vs).toArray:=by apply gL;simp
    rw[hargs];refine(u w _ d.st (oF _ _ _ _ (pH d _) s)).mono ?_;rintro e w' ⟨v,rfl,x,i⟩;exact k v w' x i
   .exact h.elim
  .rename_i t n ps p;obtain⟨v,w',x,i,m⟩:=uf h d.st (rL d ps.toList);exact it (by rw[qE p,x];rfl) (k v w' i m)
  .exact h.elim
def sj(a:∀x,x∈o.op.operands.toList->ev O x=ev O' x)(h:BM o O S z):BM o O' S z:=by
 rcases h with⟨e,h⟩|h
 .exact a9 ⟨e,wH a h⟩
 .refine aR ?_;split at h
  .rename_i c b;rw[b]at a;simp only[Op.operands,Call.operands]at a;split at h
   .rename_i f g;rw[g]at a;simp only at a;have d:c.args.toList.map (ev O)=c.args.toList.map (ev O'):=lQ fun x i=>a x (by simp;exact aR (by simpa using i))
    rw[<-a f sm,<-d];exact h
   .exact h.elim
  .rename_i t n ps b;rw[b]at a;have d:(ps.toList.map fun p=>(p.1,ev O p.2))=ps.toList.map fun p=>(p.1,ev O' p.2):=lQ fun p j=>by
    rw[a p.2 (by simp only[Op.operands];simp;exact⟨p.1,by simpa using j⟩)]
   rw[<-d];exact h
  .exact h.elim
def Gj:List Oper->Tm->St->List (Nat×eo)->(Tm->List (Nat×eo)->Prop)->Prop
 | [],O,_,pend,K=>K O pend
 | o::l,O,S,pend,K=>(match o.op,o.dst with
  | .alloc t,some d=>(match mJ t with
   | some X=>Gj l (O.put (some d) .any) S (pend++[(d,X)]) K
   | ae=>False)
  | _,_=>∃z,BM o O S z/\Gj l (O.put o.dst z) S pend K)
def oC:List (Nat×eo)->Tm->St->(Tm->St->Prop)->Prop
 | [],O,S,K=>K O S
 | (d,X)::r,O,S,K=>∀b,S b=ae->oC r (O.put (some d) (.ptr X.es b 0)) (S.upd b X) K
def Aj(ds:List Nat)(O:Tm):Tm:=fun t=>if ds.contains t&&!ql (O t)then .any else O t
def qn(l:List Oper):List Nat:=l.filterMap (·.dst)
def looks(o:Oper):List Nat:=o.op.operands.toList.filterMap fun
 | .tmp t=>some t
 | _=>ae
def vM(o:Oper):List Nat:=(o.after.toList.filter (Region.binds .any)).map (·.on)
def tT(ops:Array Oper):Nat->Nat->Nat->Bool
 | 0,_,_=>false
 | f+1,j,i=>(match ops[i]? with
  | some o=>(vM o).contains j||(vM o).any (fun k=>Nat.ble j k&&tT ops f j k)
  | ae=>false)
theorem Cw:∀(l:List Oper) (O:Tm) (S:St) (pend:List (Nat×eo)) (K:Tm->List (Nat×eo)->Prop),Gj l O S pend K ->
  ∃(Os:Nat->Tm) (al:Nat->Option eo),Os 0=O/\K (Os l.length) (pend++(wS l.length).filterMap (fun i=>(al i).bind fun X=>(l[i]?).bind fun o=>o.dst.map fun d=>(d,X))) /\
   ∀i o,l[i]? = some o->(∃t d X,o.op=.alloc t/\o.dst=some d/\mJ t=some X/\al i=some X/\Os (i+1)=(Os i).put (some d) .any) ∨
    (al i=ae/\∃z,BM o (Os i) S z/\Os (i+1)=(Os i).put o.dst z)
 | [],O,S,pend,K,h=>⟨fun _=>O,fun _=>ae,rfl,by simpa [Gj]using h,fun i o c=>by simp at c⟩
 | o::l,O,S,pend,K,h=>by
  have glue:∀(x:Option eo) (O1:Tm) (pend1:List (Nat×eo)),(pend1=pend++(x.bind fun X=>o.dst.map fun d=>(d,X)).toList)->Gj l O1 S pend1 K ->
    ((∃t d X,o.op=.alloc t/\o.dst=some d/\mJ t=some X/\x=some X/\O1=O.put (some d) .any)∨(x=ae/\∃z,BM o O S z/\O1=O.put o.dst z)) ->
    ∃(Os:Nat->Tm) (al:Nat->Option eo),Os 0=O/\K (Os (o::l).length) (pend++(wS (o::l).length).filterMap (fun i=>(al i).bind fun X=>((o::l)[i]?).bind fun o=>o.dst.map fun d=>(d,X))) /\
     ∀i o',(o::l)[i]? = some o'->(∃t d X,o'.op=.alloc t/\o'.dst=some d/\mJ t=some X/\al i=some X/\Os (i+1)=(Os i).put (some d) .any) ∨
      (al i=ae/\∃z,BM o' (Os i) S z/\Os (i+1)=(Os i).put o'.dst z):=by
   intro x O1 pend1 k e m;obtain⟨Os,al,n,b,p⟩:=Cw l O1 S pend1 K e;refine⟨fun i=>match i with|0=>O|i+1=>Os i,fun i=>match i with|0=>x|i+1=>al i,rfl,?_,fun i o' c=>?_⟩
   .simp only[cK];rw[k]at b;rw[List.range_succ_eq_map,Bh,List.filterMap_map];have q:(fun i=>((al i).bind fun X=>(l[i]?).bind fun o=>o.dst.map fun d=>(d,X)))=((fun i=>(match i with|0=>x|i+1=>al i:Option eo).bind fun X=>((o::l)[i]?).bind fun o=>o.dst.map fun d=>(d,X))∘Nat.succ):=by
     funext i;simp
    rw[<-q]
    cases a:(x.bind fun X=>o.dst.map fun d=>(d,X))with
    | none=>rw[a]at b;simp only[Option.toList_none,Jx]at b;simp only[dE,dQ];rw[a];exact b
    | some y=>rw[a]at b;simp only[Option.toList_some,Ew,RZ]at b;simp only[dE,dQ];rw[a];exact b
   .cases i with
    | zero =>
     simp at c;subst c;simp only[n];exact m
    | succ i =>
     simp only[de]at c;exact p i o' c
  unfold Gj at h;split at h
  .rename_i t d f j
   cases g:mJ t with
   | none=>rw[g]at h;exact h.elim
   | some X =>
    rw[g]at h;exact glue (some X) _ _ (by rw[j];rfl) h (a9 ⟨t,d,X,f,j,g,rfl,rfl⟩)
  .obtain⟨z,r,e⟩:=h;exact glue ae _ _ sm e (aR ⟨rfl,z,r,rfl⟩)

def ma(h:i∈kK .any ops listed):∃o,ops[i]? = some o/\listed.getD i true=false/\∀k∈vM o,listed.getD k false=true:=by
 simp only[kK,pQ,yO,cU,sB]at h;obtain⟨d,f,a⟩:=h;have b:ops[i]? = some ops[i]:=dw d;rw[b]at a;refine⟨ops[i],b,f,fun k c=>?_⟩;simp only[du,iB]at a;simp only[vM,ic,pQ]at c;obtain⟨e,⟨g,j⟩,rfl⟩:=c;have:=(EA.1 a) e (by simpa using g)
 simpa [j]using this
def LN(a:ops[i]? = some o)(c:listed.getD i true=false)(d:∀k∈vM o,listed.getD k false=true):i∈kK .any ops listed:=by
 have f:i<ops.size:=(jq.1 a).1;simp only[kK,pQ,yO,cU,sB];refine⟨f,c,?_⟩;rw[a];simp only[du,iB];refine EA.2 fun e g=>?_;by_cases b:Region.binds .any e=true
 .have:=d e.on (by simp only[vM,ic,pQ];exact⟨e,⟨by simpa using g,b⟩,rfl⟩)
  rw[this];simp
 .simp[b]
def Sb(listed:Array Bool):Nat:=listed.toList.countP (·==false)
def IC(h:listed.getD i true=false):Sb (listed.setIfInBounds i true)+1=Sb listed:=by
 have a:i<listed.size:=by
  rcases aB i listed.size with b|b
  .exact b
  .rw[cR,eg b]at h;cases h
 have c:listed.toList[i]'(by simpa using a)=false:=by
  rw[cR,dw a]at h;simpa using h
 simp only[Sb,Array.toList_setIfInBounds];rw[List.countP_set (by simpa using a),c]
 have:0<listed.toList.countP (·==false):=List.countP_pos_iff.2 ⟨false,by rw[<-c];exact Gl _,rfl⟩
 rw[aj (by rfl),ah dc]
 omega
def mc(listed:Array Bool)(i k:Nat)(d:Bool)(a:i<listed.size):(listed.setIfInBounds i true).getD k d=if k=i then true else listed.getD k d:=by
 simp only[cR];by_cases e:k=i
 .subst e;simp[a]
 .rw[ah e,dL (ai e)]
theorem pU{ops:Array Oper}{Q:Exit->Act->World->Prop}(I:Array Bool->Act->World->Prop)
  (hstep:∀listed a w i,I listed a w->i∈kK .any ops listed->wpOp ak ops Q i (fun a' w'=>I (listed.setIfInBounds i true) a' w') a w)
  (b:∀listed a w,I listed a w->kK .any ops listed=[]->Q .normal a w) :
  ∀fuel listed a w,Sb listed<=fuel->I listed a w->wpAny ak .any ops Q fuel listed a w
 | 0,listed,a,w,g,c=>by
  have d:kK .any ops listed=[]:=by
   cases d:kK .any ops listed with
   | nil=>rfl
   | cons x xs =>
    obtain⟨o,_,e,_⟩:=ma (i:=x) (by rw[d];exact fB ..)
    have:=IC e;omega
  exact⟨d,b listed a w c d⟩
 | fuel+1,listed,a,w,g,c=>by
  refine⟨b listed a w c,fun i f=>?_⟩;obtain⟨o,_,e,_⟩:=ma f;have j:=IC e;exact wpOp_mono (fun a' w' h=>pU I hstep b fuel _ a' w' om h) (hstep listed a w i c f)
def xa(ops:Array Oper)(listed:Array Bool):Prop:=∀(i:Nat) (o:Oper),ops[i]? = some o->listed.getD i false=true->∀k∈vM o,listed.getD k false=true
theorem tS{ops:Array Oper}{listed:Array Bool}(b:xa ops listed):∀(f j i:Nat) (o:Oper),ops[i]? = some o->(∀k∈vM o,listed.getD k false=true)->tT ops f j i=true->listed.getD j false=true
 | 0,_,_,_,_,_,h=>by simp[tT]at h
 | f+1,j,i,o,d,c,h=>by
  simp only[tT,d,pS]at h;rcases h with h|h
  .exact c j (by simpa using h)
  .obtain⟨k,e,h⟩:=List.any_eq_true.1 h
   replace h:=(cU _ _▸h:_/\_).2
   cases f with
   | zero=>simp[tT]at h
   | succ f =>
    cases a:ops[k]? with
    | none=>simp[tT,a]at h
    | some ok=>exact tS b (f+1) j k ok a (b k ok a (c k e)) h
def oM(h:l[i]? = some o):(o,i)∈l.zipIdx:=by
 rw[List.mem_zipIdx_iff_getElem?];exact h
def t7(h:∀t∈looks o,O t=O' t):∀x,x∈o.op.operands.toList->ev O x=ev O' x:=by
 intro x a
 cases x with
 | tmp t=>exact h t (by simp only[looks,SS];exact⟨.tmp t,a,rfl⟩)
 | const v=>rfl
 | global g=>rfl
 | func f=>rfl
def eA.fresh(h:eA w S){b:Nat}(c:w.heap.size<=b):S b=ae:=by
 cases e:S b with
 | none=>rfl
 | some X=>obtain⟨cs,a,_⟩:=h b X e;exact absurd (fT a) om

mutual
theorem bH.turn{M M':Nat->Prop}{w:World}(o:∀k,k<w.heap.size->M' k->M k):∀(a:AV) (v:Value),bH w M a v->bH w M' a v
 | .int k n,v,h=>by simpa [bH]using h
 | .bool b,v,h=>by simpa [bH]using h
 | .big z,v,h=>by simpa [bH]using h
 | .nil,v,h=>by simpa [bH]using h
 | .sl es b off len,v,h=>by simpa [bH]using h
 | .ptr es b i,v,h=>by simpa [bH]using h
 | .lst es n g,v,h=>by
  simp only[bH]at h ⊢;obtain⟨A,c,d,m,C⟩:=h;refine⟨A,c,d,m,fun D=>?_⟩;obtain⟨b,off,e,s,q,E⟩:=C D;refine⟨b,off,e,s,fun r=>q (o b s r),fun j t=>?_⟩;obtain⟨u,y,B⟩:=E j t;exact⟨u,y,bH.turn o (g j) u B⟩
 | .pat es x,v,h=>by
  simp only[bH]at h ⊢;obtain⟨b,off,u,d,s,q,y,F⟩:=h;exact⟨b,off,u,d,s,fun r=>q (o b s r),y,bH.turn o x u F⟩
 | .tup l,v,h=>by
  simp only[bH]at h ⊢;obtain⟨vs,d,m⟩:=h;exact⟨vs,d,a8.turn o l vs m⟩
 | .agg l,v,h=>by
  simp only[bH]at h ⊢;obtain⟨vs,d,m⟩:=h;exact⟨vs,d,a8.turn o l vs m⟩
 | .fn f l,v,h=>by
  simp only[bH]at h ⊢;obtain⟨vs,d,m⟩:=h;exact⟨vs,d,a8.turn o l vs m⟩
 | .mag n,v,h=>by simpa [bH]using h
 | .fp b i f,v,h=>by simpa [bH]using h
 | .bset p,v,h=>by simpa [bH]using h
 | .any,v,h=>by simp[bH]
 | .nfn,v,h=>by simpa [bH]using h
 | .mfn f l,v,h=>by
  simp only[bH]at h ⊢;obtain⟨vs,d,m⟩:=h;exact⟨vs,d,a8.turn o l vs m⟩
theorem a8.turn{M M':Nat->Prop}{w:World}(b:∀k,k<w.heap.size->M' k->M k):∀(l:List AV) (vs:List Value),a8 w M l vs->a8 w M' l vs
 | [],[],_=>by simp[a8]
 | a::l,v::vs,h=>by
  simp only[a8]at h ⊢;exact⟨bH.turn b a v h.1,a8.turn b l vs h.2⟩
 | [],_::_,h=>by simp[a8]at h
 | _::_,[],h=>by simp[a8]at h
end
def dA.any(h:dA BH BH w w')(M:Nat->Prop):dA M M w w':=⟨h.os,h.tape,h.output,h.size,fun k a _=>h.keep k a (fun x=>x),h.shape,fun _ _ h=>h⟩
def eA.frozen(h:eA w S)(a:dA BH BH w w'):eA w' S:=⟨h.z,h.gl.grow a (fun x=>x),fun b X d=>by
 obtain⟨cs,c,e,f,g⟩:=h b X d;exact⟨cs,(a.keep b (fT c) (fun x=>x)).trans c,e,fun j i=>by obtain⟨u,k,l⟩:=f j i;exact⟨u,k,bH.grow h.noU (a.any _) _ _ l⟩,g⟩⟩
def Qv(w:World)(M:Nat->Prop)(S:St):Prop:=∀b x,S b=some x->∃cs,w.heap[b]? = some (.cells cs x.ty (0,0))/\x.es*x.n<=cs.size /\
 (∀j,j<x.n->∃u,reads cs (x.es*j) x.es u/\bH w M (x.g j) u)/\∀(k:Nat) (y:Value),cs[k]? = some y->lO y
def ZX(X:eo)(zc:Array Value):Prop:=X.es*X.n<=zc.size/\(∀w M j,j<X.n->∃u,reads zc (X.es*j) X.es u/\bH w M (X.g j) u)/\∀(k:Nat) (y:Value),zc[k]? = some y->lO y
theorem xN{w:World}{a:Act}{N B0:Nat}{M:Nat->Prop}{K:Tm->St->Prop}:∀(L:List (Nat×eo×Nat)) (O:Tm) (S:St),oC (L.map fun x=>(x.1,x.2.1)) O S K ->
  Qv w M S->(∀t,bH w M (O t) (a.tmps.getD t undef))->(∀x∈L,a.tmps.getD x.1 undef=.pointer (some ⟨x.2.2,0,ae⟩)/\∃zc,w.heap[x.2.2]? = some (.cells zc x.2.1.ty (0,0))/\ZX x.2.1 zc) ->
  (L.map (·.2.2)).Nodup->(∀x∈L,S x.2.2=ae/\B0<=x.2.2) ->
  ∃O' S',K O' S'/\Qv w M S'/\(∀t,bH w M (O' t) (a.tmps.getD t undef))/\∀k,S'.dom k->S.dom k∨B0<=k
 | [],O,S,h,i,l,_,_,_=>⟨O,S,by simpa [oC]using h,i,l,fun k m=>a9 m⟩
 | (d,X,b)::L,O,S,h,i,l,o,n,p=>by
  simp only[iG,oC]at h;obtain⟨q,zc,r,s,u,v⟩:=o (d,X,b) (fB ..);obtain⟨y,z⟩:=p (d,X,b) (fB ..);simp only at q r s u v y z;simp only[iG,wT]at n;obtain⟨O',S',A,B,C,D⟩:=xN (B0:=B0) (N:=N) L (O.put (some d) (.ptr X.es b 0)) (S.upd b X) (h b y)
   (fun k Y c=>by
    simp only[St.upd]at c;by_cases e:k=b
    .rw[aj e]at c;cases c;subst e;exact⟨zc,r,s,fun j E=>u w M j E,v⟩
    .rw[ah e]at c;exact i k Y c)
   (fun t=>by
    simp only[Tm.put_eq];by_cases e:t=d
    .subst e;rw[aj rfl,q];simp[bH]
    .rw[ah e];exact l t)
   (fun x g=>o x (ee _ g)) n.2
   (fun x g=>by
    obtain⟨s1,F⟩:=p x (ee _ g);refine⟨?_,F⟩;simp only[St.upd];rw[ah]
    .exact s1
    .intro e;exact n.1 (by rw[<-e];exact ic.2 ⟨x,g,rfl⟩))
  refine⟨O',S',A,B,C,fun k m=>?_⟩;rcases D k m with f|f
  .simp only[St.dom,St.upd]at f ⊢;by_cases e:k=b
   .right;rw[e];exact z
   .rw[ah e]at f;exact a9 f
  .exact aR f
def we{t:Nat}(h:d≠some t):(a.put d v).tmps.getD t undef=a.tmps.getD t undef:=by
 cases d with
 | none=>rfl
 | some d =>
  simp only[Act.put,cR];rw[dL (fun e=>h (by rw[e]))]
def put_eq{d:Nat}(h:d<a.tmps.size):(a.put (some d) v).tmps.getD d undef=v:=by
 simp[Act.put,Array.getD,h]
def zH:(a.put d v).tmps.size=a.tmps.size:=by cases d<;>simp[Act.put]
def sU:(a.put d v).defers=a.defers:=by cases d<;>simp[Act.put]

def Mj(l:List Oper)(q j:Nat):Bool:=decide (j<q)&&(match l[j]? with
 | some o=>E0 o.op&&(match o.dst with
  | some d=>(l.zipIdx.drop q).all (fun p=>(match p.1.dst with
    | some t=>!(looks o).contains t&&decide (t≠d)
    | ae=>true)&&(!(looks p.1).contains d||(vM p.1).contains j))
  | _=>false)
 | ae=>false)
def Mi(l:List Oper)(j:Nat):Bool:=match l[j]? with
 | some o=>(match o.op with
  | .move _=>true
  | _=>false)
 | ae=>false
def Dv:List (List Nat)->List Nat
 | []=>[]
 | js::_=>js
def Mg:List (List Nat)->List (List Nat)
 | []=>[]
 | [js]=>[js]
 | _::r=>r
def G2(jss:List (List Nat)):Nat->List (List Nat)
 | 0=>jss
 | k+1=>Mg (G2 jss k)
def xI(ops:Array Oper)(q:Nat)(jss:List (List Nat))(mv:Bool):Bool :=
 let l:=ops.toList
 l.all (fun o=>o.guard.isNone) &&
 l.zipIdx.all (fun p=>(vM p.1).all (fun k=>decide (k<p.2))) &&
 (l.take q).zipIdx.all (fun p=>(l.take q).zipIdx.all (fun r=>match r.1.dst with
  | some t=>!(looks p.1).contains t||(decide (r.2<p.2)&&(vM p.1).contains r.2)
  | ae=>true)) &&
 (l.take q).zipIdx.all (fun p=>(l.take q).zipIdx.all (fun r=>decide (p.2=r.2)||p.1.dst.isNone||p.1.dst != r.1.dst)) &&
 (l.zipIdx.drop q).all (fun p=>(wS p.2).all (fun j=>(vM p.1).contains j||(((Dv (G2 jss (p.2-q))).contains j||(mv&&Mi l j))&&Mj l q j)||tT ops 12 j p.2)) &&
 decide (q<=l.length)
def mH(ops:List Oper)(O:Tm)(S:St):List Nat->Prop
 | []=>True
 | j::js=>(match ops[j]? with
  | some o=>(match o.dst with
   | some d=>BM o O S (O d)
   | ae=>False)
  | ae=>False)/\mH ops O S js
def Pm(ops:List Oper):List (List Nat)->List Oper->Tm->St->(Tm->St->Prop)->Prop
 | _,[],O,S,K=>K O S
 | jss,o::l,O,S,K=>D4 o O S (fun z S'=>mH ops (O.put o.dst z) S' (Dv jss)/\Pm ops (Mg jss) l (O.put o.dst z) S' K)
def tlX(ops:Array Oper)(jss:List (List Nat))(l:List Oper)(O:Tm)(S:St)(K:Tm->St->Prop):Prop:=(jss=[]/\Js ops l O S K)∨Pm ops.toList jss l O S K
def awX(ops:Array Oper)(O:Tm)(S:St)(K:Tm->St->Prop):Prop:=∃q jss mv H,xI ops q jss mv=true/\Gj (ops.toList.take q) O S [] H/\∀O' p,H O' p ->
 (p.isEmpty=true/\tlX ops jss (ops.toList.drop q) O' S K) ∨
 (mv=false/\∃K',oC p (Aj (qn (ops.toList.take q)) O') S K'/\∀O S,K' O S->mH ops.toList O S (Dv jss)/\tlX ops jss (ops.toList.drop q) O S K)
theorem ta{ops:List Oper}{O:Tm}{S:St}:∀{js:List Nat},mH ops O S js->∀j∈js,∃o d,ops[j]? = some o/\o.dst=some d/\BM o O S (O d)
 | [],_,j,b=>by cases b
 | i::js,h,j,b=>by
  simp only[mH]at h;rcases BJ.1 b with rfl|b
  .have a:=h.1
   cases e:ops[j]? with
   | none=>rw[e]at a;exact a.elim
   | some o =>
    rw[e]at a;simp only at a
    cases c:o.dst with
    | none=>rw[c]at a;exact a.elim
    | some d=>rw[c]at a;exact⟨o,d,rfl,c,a⟩
  .exact ta h.2 j b
def R3{S':St}(c:l[j]? = some o)(a:Mi l j=true)(h:BM o O S z):BM o O S' z:=by
 simp only[Mi,c]at a;split at a
 .rename_i x b;rcases h with⟨d,h⟩|h
  .refine a9 ⟨d,?_⟩;unfold D4 at h ⊢;rw[b]at h ⊢;exact⟨h.1,rfl⟩
  .rw[b]at h;exact h.elim
 .cases a
structure wV(ops:Array Oper)(q j:Nat)(o:Oper)(d:Nat):Prop where
 lt:j<q
 op:ops[j]? = some o
 dst:o.dst=some d
 pure:E0 o.op=true
 tail:∀(i:Nat) (p:Oper),q<=i->ops[i]? = some p->(∀t,p.dst=some t->t ∉ looks o/\t≠d)/\(d∈looks p->j∈vM p)
structure GOK(ops:Array Oper)(q:Nat)(jss:List (List Nat))(mv:Bool):Prop where
 guard:∀(i:Nat) (o:Oper),ops[i]? = some o->o.guard=ae
 back:∀(i:Nat) (o:Oper),ops[i]? = some o->∀k∈vM o,k<i
 reads:∀(i:Nat) (o:Oper) (j:Nat) (p:Oper) (t:Nat),i<q->j<q->ops[i]? = some o->ops[j]? = some p->p.dst=some t->t∈looks o->j<i/\j∈vM o
 apart:∀(i:Nat) (o:Oper) (j:Nat) (p:Oper) (t:Nat),i<q->j<q->ops[i]? = some o->ops[j]? = some p->o.dst=some t->p.dst=some t->i=j
 tail:∀(i:Nat) (o:Oper),q<=i->ops[i]? = some o->∀j,j<i->(j∈vM o∨tT ops 12 j i=true)∨((j∈Dv (G2 jss (i-q))∨mv=true/\Mi ops.toList j=true)/\∃p d,wV ops q j p d)
 le:q<=ops.size
def Hd{q:Nat}{mv:Bool}(h:xI ops q jss mv=true):GOK ops q jss mv:=by
 simp only[xI,cU,jK]at h;obtain⟨⟨⟨⟨⟨y,z⟩,A⟩,B⟩,C⟩,D⟩:=h;have gl:∀{i:Nat} {o:Oper},ops[i]? = some o->ops.toList[i]? = some o:=fun h=>by simpa using h
 have tk:∀{i:Nat} {o:Oper},i<q->ops[i]? = some o->(o,i)∈(ops.toList.take q).zipIdx:=fun c b=>oM (by rw[qQ,aj c];exact gl b)
 have dm:∀{i:Nat} {o:Oper},q<=i->ops[i]? = some o->(o,i)∈ops.toList.zipIdx.drop q:=fun {i o} c b=>by
  rw[List.mem_iff_getElem?];exact⟨i-q,by rw[List.getElem?_drop,(om:q+(i-q)=i),List.getElem?_zipIdx,gl b];simp⟩
 refine⟨fun i o b=>?_,fun i o b k E=>?_,fun i o j p t c l b m n F=>?_,fun i o j p t c l b m n r=>?_,fun i o c b j l=>?_,by simpa using D⟩
 .simpa using aF.1 y o (gO (gl b))
 .simpa using aF.1 (aF.1 z (o,i) (oM (gl b))) k E
 .have:=aF.1 (aF.1 A (o,i) (tk c b)) (p,j) (tk l m);simp only[n]at this;simp only[pS,sB,cU,jK]at this;rcases this with a|a
  .simp at a;exact absurd F a
  .exact⟨a.1,by simpa using a.2⟩
 .have:=aF.1 (aF.1 B (o,i) (tk c b)) (p,j) (tk l m);simp only[n,r]at this;simpa using this
 .have:=aF.1 (aF.1 C (o,i) (dm c b)) j (by simpa using l)
  simp only[pS]at this;rcases this with (a|a)|a
  .exact a9 (a9 (by simpa using a))
  .right;rw[cU]at a;obtain⟨s,a⟩:=a;refine⟨by simpa using s,?_⟩
   simp only[Mj,cU,jK]at a;obtain⟨u,a⟩:=a
   cases e:ops.toList[j]? with
   | none=>rw[e]at a;cases a
   | some oj =>
    rw[e]at a;simp only[cU]at a;obtain⟨v,a⟩:=a
    cases f:oj.dst with
    | none=>rw[f]at a;cases a
    | some d =>
     rw[f]at a;refine⟨oj,d,u,by simpa using e,f,v,fun i' p w m=>?_⟩
     have x:=aF.1 a (p,i') (dm w m);simp only[cU,pS,sB]at x;refine⟨fun t n=>?_,fun G=>?_⟩
     .have g:=x.1;rw[n]at g;simpa using g
     .rcases x.2 with g|g
      .simp at g;exact absurd G g
      .simpa using g
  .exact a9 (aR a)
structure Io(ops:Array Oper)(q:Nat)(S:St)(O1:Tm)(al:Nat->Option eo)(N:Nat)(a0:Act)(w0:World)(listed:Array Bool)(a:Act)(w:World):Prop where
 size:listed.size=ops.size
 tailU:∀i,q<=i->i<ops.size->listed.getD i true=false
 defers:a.defers=[]
 tsize:a.tmps.size=N
 gr:dA BH BH w0 w
 tm:∀t,(∀(j:Nat) (o:Oper),j<q->ops[j]? = some o->o.dst=some t->listed.getD j false=true)->bH w S.dom (O1 t) (a.tmps.getD t undef)
 old:∀t,(∀(j:Nat) (o:Oper),j<q->ops[j]? = some o->o.dst≠some t)->a.tmps.getD t undef=a0.tmps.getD t undef
 news:∃B:Nat->Nat,(∀(i:Nat) (o:Oper) (X:eo) (d:Nat),i<q->ops[i]? = some o->al i=some X->o.dst=some d->listed.getD i false=true ->
   a.tmps.getD d undef=.pointer (some ⟨B i,0,ae⟩)/\w0.heap.size<=B i/\∃zc,w.heap[B i]? = some (.cells zc X.ty (0,0))/\ZX X zc) /\
  ∀i j,i<q->j<q->(al i).isSome=true->(al j).isSome=true->listed.getD i false=true->listed.getD j false=true->B i=B j->i=j
def vg(ops:Array Oper)(q:Nat)(listed:Array Bool)(t:Nat):Prop:=∃j o,listed.getD j true=false/\wV ops q j o t
structure Ib(ops:Array Oper)(q:Nat)(jss:List (List Nat))(K:Tm->St->Prop)(D:Nat->Prop)(N:Nat)(w0:World)(listed:Array Bool)(a:Act)(w:World):Prop where
 ex:∃k O S,q<=k/\k<=ops.size/\listed.size=ops.size/\(∀i,q<=i->i<ops.size->(listed.getD i true=true↔i<k)) /\
  (∀j,j<q->listed.getD j true=false->∃o d,wV ops q j o d/\BM o O S (O d))/\tlX ops (G2 jss (k-q)) (ops.toList.drop k) O S K /\
  a.defers=[]/\a.tmps.size=N/\eA w S/\(∀t,¬vg ops q listed t->bH w S.dom (O t) (a.tmps.getD t undef))/\dA D S.dom w0 w
theorem tX{α β:Type}{f:α->β}:∀{l:List α},l.Nodup->(∀x∈l,∀y∈l,f x=f y->x=y)->(l.map f).Nodup
 | [],_,_=>by simp
 | a::l,h,c=>by
  simp only[wT]at h;simp only[iG,wT,ic,not_exists,not_and];refine⟨fun x b e=>?_,tX h.2 (fun x b y d=>c x (ee _ b) y (ee _ d))⟩;have:=c x (ee _ b) a (fB ..) e;subst this;exact h.1 b
def Cd(n i:Nat):(kW n false).getD i false=false:=by
 rw[cR,NM];split<;>rfl
def Dz(h:j<listed.size):listed.getD j true=listed.getD j false:=by simp[Array.getD,h]
def ot(h:listed.getD k false=true):listed.getD k true=true:=by
 rw[cR]at h ⊢
 cases a:listed[k]? with
 | none=>rw[a]at h;cases h
 | some b=>rw[a]at h;exact h
def Ob:O.put ae x=O:=by rw[Tm.put_eq]
def tW{t:Nat}(h:d≠some t):O.put d x t=O t:=by
 cases d with
 | none=>rw[Ob]
 | some d=>simp only[Tm.put_eq];rw[ah];intro e;exact h (by rw[e])
def LQ{t:Nat}:O.put (some t) x t=x:=by simp[Tm.put_eq]
def Ai{d:Nat}(b:xH N ops.toList=true)(c:ops[i]? = some o)(a:o.dst=some d):d<N:=by
 have:=aF.1 b o (gO (by simpa using c:ops.toList[i]? = some o))
 rw[a]at this;simpa using this
def wa(c:∀(i:Nat) (o:Oper),ops[i]? = some o->∀k∈vM o,k<i)(e:listed.size=ops.size)(a:kK .any ops listed=[]):∀j,j<ops.size->listed.getD j false=true:=by
 intro j
 induction j using Nat.strongRecOn with
 | _ j ih =>
  intro b
  cases f:listed.getD j false with
  | true=>rfl
  | false =>
   have:j∈kK .any ops listed:=LN (dw b) ((Dz om).trans f) (fun k d=>ih k (c j _ (dw b) k d) (by have:=c j _ (dw b) k d;omega))
   rw[a]at this;cases this
theorem uM{P:Nat->Prop}:∀(pend:List (Nat×eo)) (O0:Tm) {O1:Tm} (S:St) (K:Tm->St->Prop),oC pend O0 S K->(∀t,¬P t->O1 t=O0 t)->oC pend O1 S (fun O S=>∃O',(∀t,¬P t->O t=O' t)/\K O' S)
 | [],O0,O1,S,K,h,a=>by simp only[oC]at h ⊢;exact⟨O0,a,h⟩
 | (d,X)::r,O0,O1,S,K,h,a=>by
  simp only[oC]at h ⊢;intro b c;refine uM r _ _ K (h b c) (fun t e=>?_);simp only[Tm.put_eq];split
  .rfl
  .exact a t e
def KD{K:Tm->St->Prop}(h:awX ops O S K)(hr:RT O S N a w)(hd:xH N ops.toList=true)
  (hq:∀O' S' a' w',K O' S'->RT O' S' N a' w'->dA S.dom S'.dom w w'->Q .normal a' w'):(Code.region id ops true).wp ak Q a w:=by
 classical
 obtain⟨q,jss,mv,H0,hok,hH,hX⟩:=h;have D:=Hd hok;have hlen:(ops.toList.take q).length=q:=by rw[gP];have:=D.le;simp;omega
 obtain⟨Os,al,e0,hK,hi⟩:=Cw _ _ _ _ _ hH;rw[hlen]at hK
 replace hK:=hX _ _ hK
 have hi':∀(i:Nat) (o:Oper),i<q->ops[i]? = some o->(∃t d X,o.op=.alloc t/\o.dst=some d/\mJ t=some X/\al i=some X/\Os (i+1)=(Os i).put (some d) .any) ∨
   (al i=ae/\∃z,BM o (Os i) S z/\Os (i+1)=(Os i).put o.dst z):=fun i o c g=>hi i o (by rw[qQ,aj c];simpa using g)
 have stable:∀t k i,i<=k->k<=q->(∀j o,i<=j->j<k->ops[j]? = some o->o.dst≠some t)->Os k t=Os i t:=by
  intro t k
  induction k with
  | zero=>intro i l _ _;rw[(om:i=0)]
  | succ k ih =>
   intro i l n G;by_cases e:i=k+1
   .rw[e]
   .have hk:k<ops.size:=by have:=D.le;omega
    have I:=G k _ om om (dw hk);refine Eq.trans ?_ (ih i om om (fun j o U r g=>G j o U om g));rcases hi' k _ om (dw hk)with⟨_,d,X,_,n,_,_,C⟩|⟨_,z,_,C⟩
    .rw[C];exact tW (by rw[<-n];exact I)
    .rw[C];exact tW I
 have kept:∀(i:Nat) (o:Oper) (d:Nat) (x:AV),i<q->ops[i]? = some o->o.dst=some d->Os (i+1)=(Os i).put (some d) x->Os q d=x:=by
  intro i o d x c g hdd hO;rw[stable d q (i+1) om (ag _) (fun j p U r hp hpd=>by
   have:=D.apart i o j p d c r g hp hdd hpd;omega),hO]
  exact LQ
 have seen:∀(i:Nat) (o:Oper) (t:Nat),i<q->ops[i]? = some o->t∈looks o->Os q t=Os i t:=fun i o t c g I =>
  stable t q i om (ag _) (fun j p U r hp hpt=>by
   have:=(D.reads i o j p t c r g hp hpt I).1;omega)
 have w0s:eA w.drew S:=hr.st.drew;have r0:RT O S N a w.drew:=⟨hr.defers,hr.size,fun t=>bH.grow hr.st.noU (dA.drew _ w) _ _ (hr.tm t),w0s⟩;have came:∀(listed:Array Bool) (i j:Nat) (o:Oper),xa ops listed->ops[i]? = some o->(∀k∈vM o,listed.getD k false=true)->(j∈vM o∨tT ops 12 j i=true)->listed.getD j false=true :=
  fun listed i j o V g m h=>h.elim (m j) (tS V 12 j i o g m)
 have HT:∀listed a' w',Io ops q S (Os q) al N a w.drew listed a' w'->(∀j,j<q->listed.getD j true=false->(j∈Dv jss∨mv=true/\Mi ops.toList j=true)/\∃o d,wV ops q j o d)->Ib ops q jss K S.dom N w.drew listed a' w':=by
  intro listed a' w' H W;have hlist:∀(j:Nat) (o:Oper),j<q->ops[j]? = some o->listed.getD j true≠false->listed.getD j false=true:=by
   intro j o A g hn;rw[Dz (by rw[H.size];exact(jq.1 g).1)]at hn
   simpa using hn
  have hpure:∀(i:Nat) (o:Oper) (d:Nat),i<q->wV ops q i o d->al i=ae/\∃z,BM o (Os i) S z/\Os (i+1)=(Os i).put o.dst z:=by
   intro i o d c R;rcases hi' i o c R.op with⟨t,d,Y,l,_⟩|l
   .have:=R.pure;rw[l]at this;simp[E0]at this
   .exact l
  have halloc:∀(i:Nat) (o:Oper) (X:eo),i<q->ops[i]? = some o->al i=some X->listed.getD i false=true:=by
   intro i o X c g hX;refine hlist i o c g (fun J=>?_);obtain⟨_,o',d,R⟩:=W i c J;rw[(hpure i o' d c R).1]at hX;cases hX
  have hS:eA w' S:=w0s.frozen H.gr;have htm:∀t,¬vg ops q listed t->bH w' S.dom (Os q t) (a'.tmps.getD t undef):=fun t I=>H.tm t (fun j o A g hot=>by
   refine hlist j o A g (fun J=>?_);obtain⟨_,o',d,R⟩:=W j A J;have ho':=R.op;rw[g]at ho';cases ho';have E:=R.dst;rw[hot]at E;cases E;exact I ⟨j,o,J,R⟩)
  suffices hsuf:∃O' S',(∀j,j<q->listed.getD j true=false->∃o d,wV ops q j o d/\BM o O' S' (O' d))/\tlX ops jss (ops.toList.drop q) O' S' K/\eA w' S'/\(∀t,¬vg ops q listed t->bH w' S'.dom (O' t) (a'.tmps.getD t undef))/\dA S.dom S'.dom w.drew w' by
   obtain⟨O',S',g1,g2,g3,g4,g5⟩:=hsuf;refine⟨q,O',S',ag _,D.le,H.size,fun i hi1 hi2=>?_,g1,by rw[bQ];exact g2,H.defers,H.tsize,g3,g4,g5⟩
   rw[H.tailU i hi1 hi2];constructor
   .intro h;cases h
   .intro h;omega
  rcases hK with⟨_,hT⟩|⟨hmv,K',hA,hK'⟩
  .refine⟨Os q,S,fun j A F=>?_,hT,hS,htm,H.gr.any _⟩;obtain⟨_,o,d,R⟩:=W j A F;obtain⟨_,z,hz,hO⟩:=hpure j o d A R;refine⟨o,d,R,?_⟩;rw[kept j o d z A R.op R.dst (by rw[hO,R.dst])]
   exact sj (t7 fun t I=>(seen j o t A R.op I).symm) hz
  generalize hpe:(([]:List (Nat×eo))++(wS q).filterMap (fun i=>(al i).bind fun X=>((ops.toList.take q)[i]?).bind fun o=>o.dst.map fun d=>(d,X)))=pend at hA;have hK2:=uM (O1:=fun t=>if vg ops q listed t then .any else Aj (qn (ops.toList.take q)) (Os q) t) (P:=vg ops q listed) pend _ S _ hA (fun t I=>by simp only[ah I])
  obtain⟨B,hB1,hB2⟩:=H.news
  let idx:=(wS q).filter (fun i=>((al i).bind fun X=>((ops.toList.take q)[i]?).bind fun o=>o.dst.map fun d=>(d,X)).isSome)
  let f:Nat->Nat×eo×Nat:=fun i=>match ((al i).bind fun X=>((ops.toList.take q)[i]?).bind fun o=>o.dst.map fun d=>(d,X))with
   | some (d,X)=>(d,X,B i)
   | ae=>(0,⟨0,0,0,fun _=>.any⟩,B i)
  have hidx:∀i∈idx,∃o X d,i<q/\ops[i]? = some o/\al i=some X/\o.dst=some d/\f i=(d,X,B i):=by
   intro i hii;simp only[idx,pQ,yO]at hii;obtain⟨l,n⟩:=hii;obtain⟨p,hp⟩:=Option.isSome_iff_exists.1 n;have R:f i=(p.1,p.2,B i):=by simp only[f,hp]
   simp only[Option.bind_eq_some_iff,eX]at hp;obtain⟨X,hX,o,g,d,hd1,hd2⟩:=hp;rw[qQ,aj l]at g;refine⟨o,X,d,l,by simpa using g,hX,hd1,?_⟩
   rw[R,<-hd2]
  have hpend:pend=(idx.map f).map fun x=>(x.1,x.2.1):=by
   rw[<-hpe,wU,List.map_map];simp only[idx];generalize wS q=rg
   induction rg with
   | nil=>rfl
   | cons i rg ih =>
    simp only[Bh,List.filter_cons]
    cases hc:((al i).bind fun X=>((ops.toList.take q)[i]?).bind fun o=>o.dst.map fun d=>(d,X))with
    | none=>simp only[Option.isSome_none,dB,aH];exact ih
    | some p=>simp only[Option.isSome_some,aE,iG];rw[<-ih];simp only[Function.comp,f,hc]
  rw[hpend]at hK2
  let M:Nat->Prop:=fun b=>S.dom b∨w.drew.heap.size<=b
  have hnuM:NoU M w.drew:=by
   intro b hb cs ty fr hc;rcases hb with hb|hb
   .exact w0s.noU b hb cs ty fr hc
   .exact absurd (fT hc) om
  have up:∀x v,bH w.drew S.dom x v->bH w' M x v:=fun x v hx =>
   bH.grow hnuM (H.gr.any M) x v (bH.turn (M:=S.dom) (M':=M) (fun k hk hm=>by
    rcases hm with hm|hm
    .exact hm
    .omega) x v hx)
  have hres:=xN (a:=a') (w:=w') (N:=N) (B0:=w.drew.heap.size) (M:=M) (idx.map f) _ S hK2
   (fun b X hX=>by
    obtain⟨cs,l,n,G,L⟩:=w0s b X hX;exact⟨cs,(H.gr.keep b (fT l) (fun x=>x)).trans l,n,fun j A=>by obtain⟨u,C,h6⟩:=G j A;exact⟨u,C,up _ _ h6⟩,L⟩)
   (fun t=>by
    by_cases hlt:vg ops q listed t
    .simp only[aj hlt];simp[bH]
    simp only[ah hlt,Aj];by_cases hin:(qn (ops.toList.take q)).contains t=true
    .by_cases hmf:ql (Os q t)=true
     .simp only[hmf,BQ,TE,dB,aH];exact tZ hmf (htm t hlt)
     .simp only[hin,hmf,qT,Bool.and_self,aE];simp[bH]
    .simp only[hin,Bool.false_and,dB,aH];have hno:∀(j:Nat) (o:Oper),j<q->ops[j]? = some o->o.dst≠some t:=by
      intro j o A g hdt;apply hin;simp only[qn,List.contains_iff_mem,SS];exact⟨o,gO (i:=j) (by rw[qQ,aj A];simpa using g),hdt⟩
     rw[H.old t hno,stable t q 0 om (ag _) (fun j o _ A g=>hno j o A g),e0];exact up _ _ (r0.tm t))
   (fun x hx=>by
    obtain⟨i,hii,rfl⟩:=ic.1 hx;obtain⟨o,X,d,l,n,G,L,C⟩:=hidx i hii;rw[C];obtain⟨g1,g2,g3⟩:=hB1 i o X d l n G L (halloc i _ _ l n G);exact⟨g1,g3⟩)
   (by
    rw[List.map_map];refine tX (List.Pairwise.filter _ List.nodup_range) (fun i hii j hjj e=>?_);obtain⟨o,X,d,l,n,G,L,C⟩:=hidx i hii;obtain⟨o',X',d',h1',h2',h3',h4',h5'⟩:=hidx j hjj;simp only[Function.comp,C,h5']at e;exact hB2 i j l h1' (by rw[G];rfl) (by rw[h3'];rfl) (halloc i _ _ l n G) (halloc j _ _ h1' h2' h3') e)
   (fun x hx=>by
    obtain⟨i,hii,rfl⟩:=ic.1 hx;obtain⟨o,X,d,l,n,G,L,C⟩:=hidx i hii;rw[C];obtain⟨g1,g2,g3⟩:=hB1 i o X d l n G L (halloc i _ _ l n G);exact⟨w0s.fresh g2,g2⟩)
  obtain⟨O',S',⟨O2,Z,k1⟩,k2,k3,k4⟩:=hres;obtain⟨k5,k6⟩:=hK' _ _ k1;have hdom:∀k,k<w'.heap.size->S'.dom k->M k:=fun k _ hk=>k4 k hk;refine⟨O2,S',fun j A F=>?_,k6,⟨dd fun e=>(k4 0 e).elim hS.n0 fun h=>absurd w0s.gl.pos om,hS.gl,fun b X hX=>?_⟩,fun t I=>?_,?_⟩
  .obtain⟨hjs|⟨hm,_⟩,o,d,R⟩:=W j A F
   .obtain⟨p',d',l,n,G⟩:=ta k5 j hjs;rw[show ops.toList[j]? = some o by simpa using R.op]at l;cases l
    rw[R.dst]at n;cases n;exact⟨o,d,R,G⟩
   .rw[hmv]at hm;cases hm
  .obtain⟨cs,l,n,G,L⟩:=k2 b X hX;exact⟨cs,l,n,fun j A=>by obtain⟨u,C,h6⟩:=G j A;exact⟨u,C,bH.turn hdom _ _ h6⟩,L⟩
  .rw[<-Z t I];exact bH.turn hdom _ _ (k3 t)
  .refine⟨H.gr.os,H.gr.tape,H.gr.output,H.gr.size,fun k hk _=>H.gr.keep k hk (fun x=>x),H.gr.shape,fun k hk hm=>?_⟩;rcases k4 k hm with h6|h6
   .exact h6
   .exact absurd hk om
 have tailStep:∀listed a' w' i o,Ib ops q jss K S.dom N w.drew listed a' w'->xa ops listed->ops[i]? = some o->listed.getD i true=false->(∀k∈vM o,listed.getD k false=true)->o.wp ak a' w' (fun a'' w''=>Io ops q S (Os q) al N a w.drew (listed.setIfInBounds i true) a'' w''∨Ib ops q jss K S.dom N w.drew (listed.setIfInBounds i true) a'' w'') Q:=by
  intro listed a' w' i o T V g J m;obtain⟨k,O',S',hk1,hk2,hsz,hl,hfr,hL,hdef,hts,hrs,htm,hG⟩:=T.ex;have hio:i<ops.size:=(jq.1 g).1;have hils:i<listed.size:=om
  have s:∀j d,(listed.setIfInBounds i true).getD j d=if j=i then true else listed.getD j d:=fun j d=>mc _ _ _ _ hils
  let Om:Tm:=fun t=>if vg ops q listed t then .any else O' t
  have hRm:RT Om S' N a' w':=⟨hdef,hts,fun t=>by
   simp only[Om];split
   .simp[bH]
   .rename_i hc;exact htm t hc,hrs⟩
  have hlk:∀x,x∈o.op.operands.toList->ev O' x=ev Om x:=t7 fun t I=>by
   simp only[Om];rw[ah];rintro⟨j,oj,F,hfj⟩;have:listed.getD j false=true:=by
    rcases aB i q with c|c
    .exact m j (D.reads i o j oj t c hfj.lt g hfj.op hfj.dst I).2
    .exact m j ((hfj.tail i o c g).2 I)
   rw[ot this]at F;cases F
  have late:∀t,¬vg ops q (listed.setIfInBounds i true) t->o.dst≠some t->¬vg ops q listed t:=by
   rintro t I e ⟨j,oj,F,hfj⟩;refine I ⟨j,oj,?_,hfj⟩;rw[s,ah]
   .exact F
   .rintro rfl;have hoj:=hfj.op;rw[g]at hoj;cases hoj;exact e hfj.dst
  rcases aB i q with c|c
  ·
   obtain⟨o',d,R,hok'⟩:=hfr i c J;have ho':=R.op;rw[g]at ho';cases ho';have E:=R.dst;refine CN (sj hlk hok') hRm (fun v w'' hv hg=>aR ⟨k,O',S',hk1,hk2,by simp[hsz],fun j U r=>?_,fun j U r=>?_,hL,by rw[sU];exact hdef,by rw[zH];exact hts,hrs.frozen hg,fun t I=>?_,hG.trans (hg.any _)⟩)
   .rw[s,ah om];exact hl j U r
   .rw[s]at r;by_cases e:j=i
    .rw[aj e]at r;cases r
    .rw[ah e]at r;exact hfr j U r
   .by_cases e:o.dst=some t
    .have Z:=e;rw[E]at Z;cases Z;rw[e,put_eq (by rw[hts];exact Ai hd g E)];exact hv
    .rw[we e];exact bH.grow hrs.noU (hg.any _) _ _ (htm t (late t I e))
  .have hik:i=k:=by
    rcases dp i k with l|l|l
    .rw[(hl i c hio).2 l]at J;cases J
    .exact l
    .rcases D.tail i o c g k l with n|⟨_,p,d,n⟩
     .have:=(hl k om om).1 (ot (came _ i k o V g m n));omega
     .have:=n.lt;omega
   subst hik;have hdrop:ops.toList.drop i=o::ops.toList.drop (i+1):=by
    have l:ops.toList[i]? = some o:=by simpa using g
    rw[sh (by simpa using hio)]
    congr 1;exact(eU.1 l).2
   rw[hdrop]at hL;have nxt:∀z v w'' S'',(∀j,j∈Dv (G2 jss (i-q))->∃p d,ops.toList[j]? = some p/\p.dst=some d/\BM p (O'.put o.dst z) S'' (O'.put o.dst z d))->tlX ops (G2 jss (i-q+1)) (ops.toList.drop (i+1)) (O'.put o.dst z) S'' K->bH w'' S''.dom z v->eA w'' S''->dA S'.dom S''.dom w' w'' ->
     Io ops q S (Os q) al N a w.drew (listed.setIfInBounds i true) (a'.put o.dst v) w''∨Ib ops q jss K S.dom N w.drew (listed.setIfInBounds i true) (a'.put o.dst v) w'':=by
    intro z v w'' S'' hlate hz hv hs hg;refine aR ⟨i+1,O'.put o.dst z,S'',om,om,by simp[hsz],fun j U r=>?_,fun j U r=>?_,by rw[(om:i+1-q=(i-q)+1)];exact hz,by rw[sU];exact hdef,by rw[zH];exact hts,hs,fun t I=>?_,hG.trans hg⟩
    .rw[s];by_cases e:j=i
     .rw[aj e];simp;omega
     .rw[ah e,hl j U r];omega
    .rw[s,ah om]at r;obtain⟨p,d,R,hp⟩:=hfr j U r;refine⟨p,d,R,?_⟩;have L:ops.toList[j]? = some p:=by simpa using R.op
     rcases D.tail i o c g j om with l|⟨l|⟨_,hm⟩,_⟩
     .rw[ot (came _ i j o V g m l)]at r;cases r
     .obtain⟨p',d',l,n,G⟩:=hlate j l;rw[L]at l;cases l;rw[R.dst]at n;cases n;exact G
     .have hta:=(R.tail i o c g).1;rw[tW (fun e=>(hta d e).2 rfl)];exact sj (t7 fun t I=>(tW (fun e=>(hta t e).1 I)).symm) (R3 L hm hp)
    .by_cases e:o.dst=some t
     .rw[e,put_eq (by rw[hts];exact Ai hd g e),LQ];exact hv
     .rw[we e,tW e];exact bH.grow hrs.noU hg _ _ (htm t (late t I e))
   rcases hL with⟨A,hL⟩|hL
   .unfold Js at hL;rw[D.guard i o g]at hL;exact pE (wH hlk hL) hRm (fun z v w'' S'' hz hv hs hg=>nxt z v w'' S'' (by rw[A];intro j h;cases h) (a9 ⟨by simp only[G2];rw[A];rfl,hz⟩) hv hs hg)
   .unfold Pm at hL;exact pE (wH hlk hL) hRm (fun z v w'' S'' hz hv hs hg=>nxt z v w'' S'' (ta hz.1) (aR hz.2) hv hs hg)
 have headStep:∀listed a' w' i o,Io ops q S (Os q) al N a w.drew listed a' w'->xa ops listed->ops[i]? = some o->listed.getD i true=false->(∀k∈vM o,listed.getD k false=true)->o.wp ak a' w' (fun a'' w''=>Io ops q S (Os q) al N a w.drew (listed.setIfInBounds i true) a'' w''∨Ib ops q jss K S.dom N w.drew (listed.setIfInBounds i true) a'' w'') Q:=by
  intro listed a' w' i o H V g J m;have hio:i<ops.size:=(jq.1 g).1;have hils:i<listed.size:=by rw[H.size];exact hio
  rcases aB i q with c|c
  .have s:∀j d,(listed.setIfInBounds i true).getD j d=if j=i then true else listed.getD j d:=fun j d=>mc _ _ _ _ hils
   have hS:eA w' S:=w0s.frozen H.gr;have mk:∀(v:Value) (w'':World),dA BH BH w' w''->(∀d,o.dst=some d->bH w'' S.dom (Os q d) v) ->
     (∃B:Nat->Nat,(∀(j:Nat) (p:Oper) (X:eo) (d:Nat),j<q->ops[j]? = some p->al j=some X->p.dst=some d->(listed.setIfInBounds i true).getD j false=true ->
       (a'.put o.dst v).tmps.getD d undef=.pointer (some ⟨B j,0,ae⟩)/\w.drew.heap.size<=B j/\∃zc,w''.heap[B j]? = some (.cells zc X.ty (0,0))/\ZX X zc) /\
      ∀j k,j<q->k<q->(al j).isSome=true->(al k).isSome=true->(listed.setIfInBounds i true).getD j false=true->(listed.setIfInBounds i true).getD k false=true->B j=B k->j=k) ->
     Io ops q S (Os q) al N a w.drew (listed.setIfInBounds i true) (a'.put o.dst v) w'':=by
    intro v w'' hg hz hB;refine⟨by simp[H.size],fun j U r=>?_,by rw[sU];exact H.defers,by rw[zH];exact H.tsize,H.gr.trans hg,fun t I=>?_,fun t I=>?_,hB⟩
    .rw[s,ah om];exact H.tailU j U r
    .by_cases e:o.dst=some t
     .rw[e,put_eq (by rw[H.tsize];exact Ai hd g e)]
      exact hz t e
     .rw[we e];refine bH.grow hS.noU (hg.any _) _ _ (H.tm t (fun j p A hp hpt=>?_));have:=I j p A hp hpt;rw[s]at this;by_cases Z:j=i
      .subst Z;rw[g]at hp;cases hp;exact absurd hpt e
      .rw[ah Z]at this;exact this
    .rw[we (I i o c g)];exact H.old t I
   obtain⟨B,hB1,hB2⟩:=H.news;rcases hi' i o c g with⟨t,d,X,hop,E,hX,hal,hO⟩|⟨hal,z,hz,hO⟩
   .obtain⟨zc,z1,z2,z3⟩:=KJ hX;refine it (v:=.pointer (some ⟨w'.heap.size,0,ae⟩)) (w':=w'.alloc (.cells zc t)) (by simp[execOp,hop,z2 w']) (a9 ?_)
    have hg:dA BH BH w' (w'.alloc (.cells zc t)):=⟨rfl,rfl,rfl,sm,fun k hk _=>SK w' _ k hk,fun k cs ty fr hc=>⟨cs,by rw[SK w' _ k (fT hc)];exact hc,rfl⟩,fun _ _ h=>h⟩
    have hBlt:∀(j:Nat),j<q->(al j).isSome=true->listed.getD j false=true->B j<w'.heap.size:=by
     intro j A hs C;have hjs:j<ops.size:=by have:=D.le;omega
     rcases hi' j ops[j] A (dw hjs)with⟨_,e,Y,_,n,_,L,_⟩|⟨L,_⟩
     .obtain⟨_,_,zc',hz',_⟩:=hB1 j _ Y e A (dw hjs) L n C;exact fT hz'
     .rw[L]at hs;cases hs
    refine mk _ _ hg (fun d' hd'=>?_) ⟨fun j=>if j=i then w'.heap.size else B j,fun j p Y e l n G L C=>?_,fun j k l n G L C h6 h7=>?_⟩
    .rw[E]at hd';cases hd';rw[kept i o d _ c g E hO];simp[bH]
    .by_cases Z:j=i
     .subst Z;rw[g]at n;cases n;rw[E]at L;cases L;rw[hal]at G;cases G;simp only[aE];refine⟨by rw[E,put_eq (by rw[H.tsize];exact Ai hd g E)],H.gr.size,zc,?_,z3⟩
      rw[z1];exact jB w' _
     .simp only[ah Z];rw[s,ah Z]at C;obtain⟨g1,g2,zc',g3,g4⟩:=hB1 j p Y e l n G L C;refine⟨?_,g2,zc',?_,g4⟩
      .rw[we]
       .exact g1
       .intro e3;exact Z (D.apart j p i o e l c n g L e3)
      .rw[SK w' _ _ (fT g3)];exact g3
    .rw[s]at C h6;by_cases e1:j=i
     .by_cases Z:k=i
      .rw[e1,Z]
      .simp only[aj e1,ah Z]at h7;rw[ah Z]at h6;have:=hBlt k n L h6;omega
     .rw[ah e1]at C;by_cases Z:k=i
      .simp only[ah e1,aj Z]at h7;have:=hBlt j l G C;omega
      .simp only[ah e1,ah Z]at h7;rw[ah Z]at h6;exact hB2 j k l n G L C h6 h7
   .let Oe:Tm:=fun t=>if (∀(j:Nat) (p:Oper),j<q->ops[j]? = some p->p.dst=some t->listed.getD j false=true)then Os q t else .any
    have hRe:RT Oe S N a' w':=⟨H.defers,H.tsize,fun t=>by
     simp only[Oe];split
     .rename_i hc;exact H.tm t hc
     .simp[bH],hS⟩
    have hze:BM o Oe S z:=sj (t7 fun t I=>by
     simp only[Oe];rw[aj (fun j p A hp hpt=>m j (D.reads i o j p t c A g hp hpt I).2),seen i o t c g I]) hz
    have hne:∀j,(al j).isSome=true->j≠i:=fun j h Z=>by subst Z;rw[hal]at h;cases h
    refine CN hze hRe (fun v w'' hv hg=>a9 (mk v w'' hg (fun d hdd=>?_) ⟨B,fun j p Y e l n G L C=>?_,fun j k l n G L C h6 h7=>?_⟩))
    .rw[kept i o d z c g hdd (by rw[hO,hdd])];exact hv
    .have hji:=hne j (by rw[G];rfl)
     rw[s,ah hji]at C;obtain⟨g1,g2,zc',g3,g4⟩:=hB1 j p Y e l n G L C;refine⟨?_,g2,zc',(hg.keep _ (fT g3) (fun x=>x)).trans g3,g4⟩;rw[we]
     .exact g1
     .intro e3;exact hji (D.apart j p i o e l c n g L e3)
    .rw[s,ah (hne j G)]at C;rw[s,ah (hne k L)]at h6;exact hB2 j k l n G L C h6 h7
  .have hi0:i=q:=by
    rcases aB q i with h|h
    .exfalso;rcases D.tail i o c g q h with l|⟨_,p,d,l⟩
     .have n:=ot (came _ i q o V g m l);rw[H.tailU q (ag _) om]at n;cases n
     .have:=l.lt;omega
    .omega
   refine tailStep listed a' w' i o (HT listed a' w' H (fun j A F=>?_)) V g J m;rcases D.tail i o c g j om with l|l
   .rw[ot (came _ i j o V g m l)]at F;cases F
   .rw[hi0,bQ]at l;exact l
 refine wp_region_any kr (pU (fun listed a' w'=>xa ops listed/\(Io ops q S (Os q) al N a w.drew listed a' w'∨Ib ops q jss K S.dom N w.drew listed a' w')) ?_ ?_ ops.size _ a w.drew ?_ ⟨fun i o g h=>?_,a9 ?_⟩)
 .rintro listed a' w' i ⟨V,hI⟩ hi;obtain⟨o,g,J,m⟩:=ma hi;have hcl':xa ops (listed.setIfInBounds i true):=by
   have hils:i<listed.size:=by
    rcases aB i listed.size with h|h
    .exact h
    .rw[cR,eg h]at J;cases J
   intro j p hp A k hk;rw[mc _ _ _ _ hils]at A ⊢;split
   .rfl
   .split at A
    .rename_i e;subst e;rw[g]at hp;cases hp;exact m k hk
    .exact V j p hp A k hk
  unfold wpOp;simp only[g];rw[aj (by simp[o5,D.guard i o g])]
  simp only[hcl',ke];rcases hI with H|T
  .exact a9 (headStep listed a' w' i o H V g J m)
  .exact a9 (tailStep listed a' w' i o T V g J m)
 .rintro listed a' w' ⟨_,hI⟩ hre;have T:Ib ops q jss K S.dom N w.drew listed a' w':=by
   rcases hI with H|T
   .refine HT listed a' w' H (fun j A F=>?_);rw[ot (wa D.back H.size hre j (by have:=D.le;omega))]at F;cases F
   .exact T
  obtain⟨k,O',S',hk1,hk2,hsz,hl,hfr,hL,hdef,hts,hrs,htm,hG⟩:=T.ex;have W:=wa D.back hsz hre;have hk:k=ops.size:=by
   rcases aB k ops.size with l|l
   .have:=(hl k hk1 l).1 (ot (W k l));omega
   .omega
  rw[hk,kF sm]at hL
  refine hq O' S' a' w' (hL.elim (fun h=>h.2) (fun h=>by unfold Pm at h;exact h)) ⟨hdef,hts,fun t=>htm t ?_,hrs⟩ ((dA.drew S.dom w).trans hG)
  rintro⟨j,y,F,hfj⟩;rw[ot (W j (by have:=hfj.lt;have:=D.le;omega))]at F;cases F
 .simp only[Sb];exact bO R2 sm
 .rw[Cd]at h;cases h
 .refine⟨sm,fun i _ hi2=>?_,hr.defers,hr.size,dA.refl _ _,fun t I=>?_,fun _ _=>rfl,fun _=>0,fun i o X d l n G L C=>?_,fun i j l n G L C h6 h7=>?_⟩
  .rw[Dz (by simpa using hi2)];exact Cd _ _
  .rw[stable t q 0 om (ag _) (fun j o _ A g hdt=>by
    have:=I j o A g hdt;rw[Cd]at this;cases this),e0]
   exact r0.tm t
  .rw[Cd]at C;cases C
  .rw[Cd]at C;cases C

def M2(ops:Array Oper):Bool:=ops.toList.zipIdx.all (fun p=>(vM p.1).all (fun k=>decide (k<p.2)))
def RR(ops:Array Oper)(o:Oper)(O:Tm)(S:St)(K:Tm->St->Prop):Prop:=match o.guard with
 | ae=>D4 o O S (fun z S'=>K (O.put o.dst z) S')
 | some (j,want)=>(match Iz ops O j with
  | .bool b=>(b=want->D4 o O S (fun z S'=>K (O.put o.dst z) S'))/\(b=!want->K (O.put o.dst .any) S)
  | _=>False)
def awI(ops:Array Oper)(O:Tm)(S:St)(K:Tm->St->Prop):Prop:=∃P:(Nat->Bool)->Tm->St->Prop,M2 ops=true/\P (fun _=>false) O S /\
 (∀(i:Nat) (o:Oper),ops[i]? = some o->∀L O S,P L O S->L i=false->(∀k∈vM o,L k=true)->RR ops o O S (P (fun k=>if k=i then true else L k))) /\
 (∀L O S,P L O S->(∀i,i<ops.size->L i=true)->K O S)
def KE{K:Tm->St->Prop}(h:awI ops O S K)(q:RT O S N a w)(R:xH N ops.toList=true)
  (T:∀O' S' a' w',K O' S'->RT O' S' N a' w'->dA S.dom S'.dom w w'->Q .normal a' w'):(Code.region id ops true).wp ak Q a w:=by
 obtain⟨P,C,U,hstep,r⟩:=h;have back:∀(j:Nat) (o:Oper),ops[j]? = some o->∀k∈vM o,k<j:=by
  intro j o m k V;have c:=aF.1 C (o,j) (oM (by simpa using m))
  have W:=aF.1 c k V;simpa using W
 have w0s:eA w.drew S:=q.st.drew;have X:RT O S N a w.drew:=⟨q.defers,q.size,fun t=>bH.grow q.st.noU (dA.drew _ w) _ _ (q.tm t),w0s⟩;refine wp_region_any kr (pU (fun listed a' w'=>listed.size=ops.size/\∃O' S',P (fun i=>listed.getD i false) O' S'/\RT O' S' N a' w'/\dA S.dom S'.dom w.drew w') ?_ ?_ ops.size _ a w.drew ?_ ⟨sm,O,S,?_,X,dA.refl _ _⟩)
 .rintro listed a' w' i ⟨g,O',S',D,l,E⟩ F;obtain⟨o,m,G,s⟩:=ma F;have Y:i<ops.size:=(jq.1 m).1;have Z:(fun k=>listed.getD k false) i=false:=(Dz om).symm.trans G;have c:=hstep i o m _ O' S' D Z s;have u:(fun k=>(listed.setIfInBounds i true).getD k false)=(fun k=>if k=i then true else listed.getD k false):=by
   funext k;exact mc listed i k false om
  have nxt:∀z v w'' S'',P (fun k=>if k=i then true else listed.getD k false) (O'.put o.dst z) S''->bH w'' S''.dom z v->eA w'' S''->dA S'.dom S''.dom w' w'' ->
    ((listed.setIfInBounds i true).size=ops.size/\∃O1 S1,P (fun i_1=>(listed.setIfInBounds i true).getD i_1 false) O1 S1/\RT O1 S1 N (a'.put o.dst v) w''/\dA S.dom S1.dom w.drew w''):=by
   intro z v w'' S'' x y A n;refine⟨by simp[g],_,S'',?_,l.put n A (fun d H=>Ai R m H) y,E.trans n⟩
   rw[u];exact x
  unfold wpOp;simp only[m];unfold RR at c
  cases f:o.guard with
  | none =>
   rw[f]at c;rw[aj (by simp[o5,f])]
   exact a9 (pE c l (fun z v w'' S'' x y A n=>nxt z v w'' S'' x y A n))
  | some p =>
   obtain⟨j,want⟩:=p;rw[f]at c;simp only at c
   cases M:Iz ops O' j<;>rw[M]at c<;>try exact c.elim
   rename_i b;have B:=BS l M;by_cases I:b=want
   .rw[aj (by simp[o5,f,B,I])]
    exact a9 (pE (c.1 I) l (fun z v w'' S'' x y A n=>nxt z v w'' S'' x y A n))
   .rw[ah (by simp[o5,f,B,I])]
    have J:b=!want:=by cases b<;>cases want<;>simp_all
    exact nxt .any undef w' S' (c.2 J) (by simp[bH]) l.st (dA.refl _ _)
 .rintro listed a' w' ⟨g,O',S',D,l,E⟩ L;exact T O' S' a' w' (r _ O' S' D (fun i F=>wa back g L i F)) l ((dA.drew S.dom w).trans E)
 .simp only[Sb];exact bO R2 sm
 .have e:(fun i=>(kW ops.size false).getD i false)=fun _=>false:=by funext i;exact Cd _ _
  show P (fun i=>(kW ops.size false).getD i false) O S;rw[e];exact U

inductive AX where
 | normal
 | ret
 | exit (id:Nat)
def AX.seq(k:Tm->St->Prop)(Q:AX->Tm->St->Prop):AX->Tm->St->Prop
 | .normal=>k
 | .ret=>Q .ret
 | .exit i=>Q (.exit i)
def AX.blk(id:Nat)(Q:AX->Tm->St->Prop):AX->Tm->St->Prop
 | .normal=>Q .normal
 | .ret=>Q .ret
 | .exit i=>if i=id then Q .normal else Q (.exit i)
def Pp(ops:Array Oper)(O:Tm)(S:St)(K:Tm->St->Prop):Prop:=awX ops O S K∨awI ops O S K
def aw:Code->(AX->Tm->St->Prop)->Tm->St->Prop
 | .skip,Q,O,S=>Q .normal O S
 | .region _ ops false,Q,O,S=>Js ops ops.toList O S (Q .normal)
 | .region _ ops true,Q,O,S=>Pp ops O S (Q .normal)
 | .seq x y,Q,O,S=>aw x (AX.seq (aw y Q) Q) O S
 | .cond c x y,Q,O,S=>(match ev O c with
  | .bool b=>(b=true->aw x Q O S)/\(b=false->aw y Q O S)
  | _=>False)
 | .block id c,Q,O,S=>aw c (AX.blk id Q) O S
 | .loop c,Q,O,S=>∃(I:Tm->St->Prop) (μ:Tm->St->Nat),I O S/\∀O S,I O S->aw c (AX.seq (fun O' S'=>I O' S'/\μ O' S' < μ O S) Q) O S
 | .exit id,Q,O,S=>Q (.exit id) O S
 | .ret,Q,O,S=>Q .ret O S
 | .scope c,Q,O,S=>aw c Q O S
 | .label _,Q,O,S=>Q .normal O S
 | _,_,_,_=>False
def jG(N:Nat):Code->Bool
 | .skip=>true
 | .region _ ops _=>xH N ops.toList
 | .seq x y=>jG N x&&jG N y
 | .cond _ x y=>jG N x&&jG N y
 | .block _ c=>jG N c
 | .loop c=>jG N c
 | .exit _=>true
 | .ret=>true
 | .scope c=>jG N c
 | .label _=>true
 | _=>false
def Post(Q:AX->Tm->St->Prop)(D:Nat->Prop)(N:Nat)(w0:World):Exit->Act->World->Prop
 | .normal,a,w=>∃O S,Q .normal O S/\RT O S N a w/\dA D S.dom w0 w
 | .ret,a,w=>∃O S,Q .ret O S/\RT O S N a w/\dA D S.dom w0 w
 | .exit i,a,w=>∃O S,Q (.exit i) O S/\RT O S N a w/\dA D S.dom w0 w
 | _,_,_=>False
theorem mw{N:Nat}:∀(c:Code) (Q:AX->Tm->St->Prop) (O:Tm) (S:St) (D:Nat->Prop) (j:World) (a:Act) (w:World),aw c Q O S->jG N c=true->RT O S N a w->dA D S.dom j w->c.wp ak (Post Q D N j) a w
 | .skip,Q,O,S,D,j,a,w,h,_,f,g=>wp_skip ⟨O,S,h,f,g⟩
 | .region id ops false,Q,O,S,D,j,a,w,h,k,f,g=>by
  refine wp_region_list (wF ops.toList h f k (fun O' S' a' w' m o p=>⟨O',S',m,o,g.trans p⟩))
 | .region id ops true,Q,O,S,D,j,a,w,h,k,f,g =>
  h.elim (fun h=>KD h f k (fun O' S' a' w' m o p=>⟨O',S',m,o,g.trans p⟩)) (fun h=>KE h f k (fun O' S' a' w' m o p=>⟨O',S',m,o,g.trans p⟩))
 | .seq x y,Q,O,S,D,j,a,w,h,k,f,g=>by
  simp only[jG,cU]at k;simp only[aw]at h;refine wp_seq (yo ?_ (mw x _ O S D j a w h k.1 f g));intro e a' w' d
  cases e with
  | normal=>obtain⟨O',S',m,o,p⟩:=d;exact mw y Q O' S' D j a' w' m k.2 o p
  | ret=>exact d
  | exit i=>exact d
  | goto l=>exact d.elim
  | panic ch=>exact d.elim
  | outgrown=>exact d.elim
 | .cond c x y,Q,O,S,D,j,a,w,h,k,f,g=>by
  simp only[jG,cU]at k;simp only[aw]at h;have q:=f.ev c
  cases r:ev O c<;>rw[r]at h q<;>try exact h.elim
  rename_i b;simp only[bH]at q
  cases b
  .exact wp_cond_false q (mw y Q O S D j a w (h.2 rfl) k.2 f g)
  .exact wp_cond_true q (mw x Q O S D j a w (h.1 rfl) k.1 f g)
 | .block id c,Q,O,S,D,j,a,w,h,k,f,g=>by
  simp only[jG]at k;simp only[aw]at h;refine wp_block (yo ?_ (mw c _ O S D j a w h k f g));intro e a' w' d
  cases e with
  | normal=>exact d
  | ret=>exact d
  | exit i =>
   obtain⟨O',S',m,o,p⟩:=d;simp only[AX.blk]at m;simp only[Exit.inBlock];split at m
   .rename_i e;subst e;simp;exact⟨O',S',m,o,p⟩
   .rename_i e;simp[e];exact⟨O',S',m,o,p⟩
  | goto l=>exact d.elim
  | panic ch=>exact d.elim
  | outgrown=>exact d.elim
 | .loop c,Q,O,S,D,j,a,w,h,k,f,g=>by
  simp only[jG]at k;simp only[aw]at h;obtain⟨I,μ,s,hround⟩:=h;have key:∀n O S a w,μ O S<n->I O S->RT O S N a w->dA D S.dom j w->Code.rounds ak c (Post Q D N j) n a w:=by
   intro n
   induction n with
   | zero=>intro O S a w m;omega
   | succ n ih =>
    intro O S a w m o p t;refine yo ?_ (mw c _ O S D j a w (hround O S o) k p t);intro e a' w' d
    cases e with
    | normal =>
     obtain⟨O',S',⟨u,A⟩,v,z⟩:=d;exact ih O' S' a' w' om u v z
    | ret=>exact d
    | exit i=>exact d
    | goto l=>exact d.elim
    | panic ch=>exact d.elim
    | outgrown=>exact d.elim
  exact wp_loop_rounds (μ O S+1) (key _ O S a w om s f g)
 | .exit id,Q,O,S,D,j,a,w,h,_,f,g=>wp_exit ⟨O,S,h,f,g⟩
 | .ret,Q,O,S,D,j,a,w,h,_,f,g=>wp_ret ⟨O,S,h,f,g⟩
 | .rangeFunc ..,_,_,_,_,_,_,_,h,_,_,_=>h.elim
 | .scope c,Q,O,S,D,j,a,w,h,k,f,g=>by
  simp only[jG]at k;simp only[aw]at h;refine wp_scope_straight (yo ?_ (mw c Q O S D j a w h k f g));intro e a' w' d
  cases e with
  | normal=>exact d
  | ret=>exact d
  | exit i=>exact d
  | goto l=>exact d.elim
  | panic ch=>exact d.elim
  | outgrown=>exact d.elim
 | .label _,Q,O,S,D,j,a,w,h,_,f,g=>wp_label ⟨O,S,h,f,g⟩
 | .goto _,_,_,_,_,_,_,_,h,_,_,_=>h.elim
 | .refuse _,_,_,_,_,_,_,_,h,_,_,_=>h.elim
def Bz:List ResultVar->Tm->St->(List AV->Prop)->Prop
 | [],_,_,K=>K []
 | .tmp t::r,O,S,K=>Bz r O S (fun l=>K (O t::l))
 | .cell p ty::r,O,S,K=>rI ty (O p) S (fun z=>Bz r O S (fun l=>K (z::l)))
def zk:List AV->AV
 | [x]=>x
 | l=>.tup l
theorem Da{N:Nat}{O:Tm}{S:St}{a:Act}{w:World}(e:RT O S N a w):∀(rs:List ResultVar) (K:List AV->Prop),Bz rs O S K ->
  ∃l vs,K l/\a8 w S.dom l vs/\vs.length=rs.length/\(rs.mapM (m:=Sem) fun
   | .tmp t=>pure (a.tmps.getD t undef)
   | .cell p t=>do loadVar t (<-asAddr (a.tmps.getD p undef))).run ak w=.ok vs w
 | [],K,h=>⟨[],[],h,by simp[a8],rfl,sm⟩
 | .tmp t::r,K,h=>by
  obtain⟨l,vs,g,i,j,k⟩:=Da e r _ h;exact⟨O t::l,a.tmps.getD t undef::vs,g,by simp only[a8];exact⟨e.tm t,i⟩,by simp[j],by simp only[TA,j9,Id,io,k]⟩
 | .cell p ty::r,K,h=>by
  obtain⟨z,v,o,q,d⟩:=rH h e.st (e.tm p);obtain⟨l,vs,g,i,j,k⟩:=Da e r _ o;have f:∃ad,a.tmps.getD p undef=.pointer (some ad):=by
   have c:=e.tm p;simp only[Bz]at h
   cases n:O p<;>rw[n]at h c<;>simp only[rI]at h
   .simp only[bH]at c;exact⟨_,c⟩
   .simp only[bH]at c;obtain⟨b,off,u,c,_⟩:=c;exact⟨_,c⟩
   .simp only[bH]at c;exact⟨_,c⟩
  obtain⟨ad,f⟩:=f;rw[f]at d;have s:(loadVar ty ad).run ak w=.ok v w:=by simpa [Instr.loadAt,Instr.sureAddr]using d
  have haddr:(asAddr (.pointer (some ad))).run ak w=.ok ad w:=by simp[asAddr]
  exact⟨z::l,v::vs,g,by simp only[a8];exact⟨q,i⟩,by simp[j],by simp only[TA,j9,Id,io,f,haddr,s,k]⟩
def LB(args:List AV):Tm:=fun t=>args.getD t .any
def NU:∀(args:List AV) (vs:List Value) (k:Nat),a8 w M args vs->∀t,bH w M (LB args t) ((vs.toArray++kW k undef).getD t undef):=by
 intro args vs k h t;have f:∀(j:Nat),(kW k undef).getD j undef=undef:=fun j=>by
  rw[cR,NM];split<;>rfl
 rcases aB t args.length with a|a
 .have b:args[t]? = some (args[t]):=bE a;obtain⟨v,c,d⟩:=uW args vs h t _ b;have e:t<vs.length:=(eU.1 c).1;have:(vs.toArray++kW k undef).getD t undef=v:=by
   rw[cR,eG (by simpa using e)]
   simp[c]
  rw[this];simp only[LB,dh,b,iB];exact d
 .have:LB args t=.any:=by simp[LB,dh,dV a]
  rw[this];simp[bH]
theorem AQ{w:World}{M:Nat->Prop}:∀(l:List AV) (vs:List Value),a8 w M l vs->vs.length=l.length
 | [],[],_=>rfl
 | _::l,_::vs,h=>by simp only[a8]at h;simp[AQ l vs h.2]
 | [],_::_,h=>by simp[a8]at h
 | _::_,[],h=>by simp[a8]at h
def D5(rs:List ResultVar)(post:AV->St->Prop):AX->Tm->St->Prop
 | .normal,O,S=>Bz rs O S (fun l=>post (zk l) S)
 | .ret,O,S=>Bz rs O S (fun l=>post (zk l) S)
 | .exit _,_,_=>False
def sC{fn:Func}(s:ak.funcs[f]? = some fn)(z:fn.body=some c){args:List AV}{S:St}{post:AV->St->Prop}(N:Nat)(E:fn.ntmps=N)(k:jG N c=true)(o:args.length<=N)
  (h:aw c (D5 fn.results.toList post) (LB args) S):cJ f args S post:=by
 intro w vs A p;refine calls_of_wp s z ?_;have B:=AQ _ _ p;have m:RT (LB args) S N { tmps:=vs.toArray++kW (fn.ntmps-vs.toArray.size) undef,defers:=[] } w:=by
  refine⟨rfl,?_,fun t=>NU args vs _ p t,A⟩;simp;omega
 refine yo ?_ (mw c _ _ S S.dom w _ w h k m (dA.refl _ _));have fin:∀a w',(∃O S',Bz fn.results.toList O S' (fun l=>post (zk l) S')/\RT O S' N a w'/\dA S.dom S'.dom w w')->a.defers=[]/\∃v,(results fn a.tmps).run ak w'=.ok v w'/\∃v' r S',Ending.returned v=.returned v'/\post r S'/\bH w' S'.dom r v'/\eA w' S'/\dA S.dom S'.dom w w':=by
  rintro a w' ⟨O,S',n,j,q⟩;obtain⟨l,us,C,b,F,D⟩:=Da j _ _ n;have g:=AQ _ _ b;refine⟨j.defers,if h:us.toArray.size=1 then us.toArray[0]else .tuple us.toArray,?_,_,_,S',rfl,C,?_,j.st,q⟩
  .simp only[results];rw[Array.mapM_eq_mapM_toList];simp only[j9,Sem.run_map,Id];exact(nv (fun r:Result (List Value)=>((r.andThen fun a w'=>Result.ok a.toArray w').andThen fun a w'=>Result.ok (if h:a.size=1 then a[0]else Value.tuple a) w')) D).trans rfl
  .match l,us,b,g with
   | [x],[u],b,_=>simp only[a8]at b;simpa [zk]using b.1
   | [],[],b,g =>
    simp only[zk,bH];exact⟨[],sm,by simp[a8]⟩
   | x::y::l,u::u'::us,b,_ =>
    simp only[zk,bH];exact⟨u::u'::us,sm,b⟩
 intro e a w' d
 cases e with
 | normal=>exact fin a w' d
 | ret=>exact fin a w' d
 | exit i=>obtain⟨O,S',n,j,q⟩:=d;exact n.elim
 | goto l=>exact d.elim
 | panic ch=>exact d.elim
 | outgrown=>exact d.elim
def C7{fn:Func}(d:ak.funcs[f]? = some fn)(e:fn.body=some c){args:List AV}{S:St}{post:AV->St->Prop}(N:Nat)(g:fn.ntmps=N)(b:jG N c=true)(a:args.length<=N)(_hne:fn.results.size≠0)
  (h:aw c (D5 fn.results.toList post) (LB args) S):cJ f args S post:=sC d e N g b a h

def dA.below(h:Below w.heap.size w w'):dA BH BH w w' :=
 ⟨h.os,h.tape,h.output,h.size,fun k b _=>h.block k b,fun k cs ty fr a=>⟨cs,by rw[h.block k (fT a)];exact a,rfl⟩,fun _ _ h=>h⟩
def CE(f:Nat)(args:List AV)(z:AV):Prop:=∀S,uX f args S z
def QS{zb z:Int}(h:∀va vb B w,B<=w.heap.size->ew w B va za->ew w B vb zb->Calls ak f #[va,vb] w (dI w z)):CE f [.big za,.big zb] (.big z):=by
 intro S w vs d a
 match vs,a with
 | [va,vb],a =>
  simp only[a8,bH]at a;refine(h va vb w.heap.size w (ag _) a.1 a.2.1).mono ?_;rintro e w' ⟨v,rfl,b,c⟩;exact⟨v,rfl,by simpa [bH]using b,dA.below c⟩
 | [],a=>simp[a8]at a
 | [_],a=>simp[a8]at a
 | _::_::_::_,a=>simp[a8]at a
def QT{z:Int}(h:∀va B w,B<=w.heap.size->ew w B va za->Calls ak f #[va] w (dI w z)):CE f [.big za] (.big z):=by
 intro S w vs d a
 match vs,a with
 | [va],a =>
  simp only[a8,bH]at a;refine(h va w.heap.size w (ag _) a.1).mono ?_;rintro e w' ⟨v,rfl,b,c⟩;exact⟨v,rfl,by simpa [bH]using b,dA.below c⟩
 | [],a=>simp[a8]at a
 | _::_::_,a=>simp[a8]at a
def uX.spec(h:uX f args S z){post:AV->St->Prop}(c:post z S):cJ f args S post:=by
 intro w vs a d;refine(h w vs a d).mono ?_;rintro e w' ⟨v,rfl,g,b⟩;exact⟨v,z,S,rfl,c,g,a.frozen b,b.any _⟩
def kb(x:α):∃y:α,y=x:=⟨x,rfl⟩
noncomputable def Aw:Code->(AX->Tm->St->Prop)->Tm->St->Prop:=fN (kb aw)
def pN:Aw=aw:=dj (kb aw)
noncomputable def Es:Array Oper->List Oper->Tm->St->(Tm->St->Prop)->Prop:=fN (kb Js)
def xf:Es=Js:=dj (kb Js)
noncomputable def Ix:Array Oper->Tm->St->(Tm->St->Prop)->Prop:=fN (kb Pp)
def tA:Ix=Pp:=dj (kb Pp)
noncomputable def Gf:List Oper->Tm->St->List (Nat×eo)->(Tm->List (Nat×eo)->Prop)->Prop:=fN (kb Gj)
def qB:Gf=Gj:=dj (kb Gj)
noncomputable def QJ:List Oper->List (List Nat)->List Oper->Tm->St->(Tm->St->Prop)->Prop:=fN (kb Pm)
def Er:QJ=Pm:=dj (kb Pm)
noncomputable def Nx:Oper->Tm->St->(AV->St->Prop)->Prop:=fN (kb D4)
def xg:Nx=D4:=dj (kb D4)
noncomputable def vJ:List (Nat×eo)->Tm->St->(Tm->St->Prop)->Prop:=fN (kb oC)
def vI:vJ=oC:=dj (kb oC)
structure Nt{α:Type}(x:α):Type where
structure Dep2{α β:Type}(x:α)(y:β):Type where
def ax(S:St)(K:Nat->Prop)(_u:Nt K:=⟨⟩):Prop:=∀b,S b=ae->K b
def Qu(f:Nat)(args:List AV)(S:St)(K:AV->St->Prop)(_u:Nt K:=⟨⟩):Prop:=cJ f args S K
def AM(t t':TypeId)(s x:AV)(S:St)(K:AV->St->Prop)(_u:Nt K:=⟨⟩):Prop:=gD t t' s x S K
def KO(t:TypeId)(s x:AV)(S:St)(K:AV->St->Prop)(_u:Nt K:=⟨⟩):Prop:=rJ t s x S K
def AI(t:TypeId)(s x:AV)(S:St)(K:AV->St->Prop)(_u:Nt K:=⟨⟩):Prop:=xP t s x S K
noncomputable def AwDK(ops:Array Oper)(O:Tm)(S:St)(K:Tm->St->Prop)(_u:Dep2 ops K:=⟨⟩):Prop:=Ix ops O S K
noncomputable def AwLK(c:Code)(Q:AX->Tm->St->Prop)(O:Tm)(S:St)(_u:Dep2 c Q:=⟨⟩):Prop:=Aw (.loop c) Q O S
def ax.intro{K:Nat->Prop}(h:∀b,S b=ae->K b):ax S K:=h
def gd(y:AV)(want:Bool)(A B:Prop):Prop:=match y with
 | .bool b=>if b=want then A else B
 | _=>False
def cd(y:AV)(A B:Prop):Prop:=match y with
 | .bool b=>if b=true then A else B
 | _=>False
def AF(c x y:AV)(K:AV->Prop):Prop:=match c with
 | .bool t=>K (if t then x else y)
 | _=>False
def Pr(x:AV)(K:AV->Prop):Prop:=match x with
 | .ptr es b i=>K (.ptr es b i)
 | .pat es y=>K (.pat es y)
 | _=>False
def Jt(x:AV)(i:Nat)(K:AV->Prop):Prop:=match x with
 | .tup l=>(match l[i]? with
  | some z=>K z
  | ae=>False)
 | _=>False
def D6(f:AV)(args:List AV)(S:St)(K:AV->St->Prop):Prop:=match f with
 | .fn f l=>((11<=f/\f<270)/\f≠252/\f≠253)/\Qu f (args++l) S K
 | .mfn f l=>((11<=f/\f<270)/\f≠252/\f≠253)/\Qu f (l++args) S K
 | _=>False
def Mt(f:AV)(args:List AV)(S:St)(z:AV):Prop:=match f with
 | .fn f l=>((11<=f/\f<270)/\f≠252/\f≠253)/\uX f (args++l) S z
 | _=>False
@[congr] theorem gd_congr{y y':AV}{b:Bool}{A B:Prop}(h:y=y'):gd y b A B=gd y' b A B:=by rw[h]
@[congr] theorem cd_congr{y y':AV}{A B:Prop}(h:y=y'):cd y A B=cd y' A B:=by rw[h]
@[congr] theorem Qi{c c' x x' y y':AV}{K:AV->Prop}(h:c=c')(h2:x=x')(h3:y=y'):AF c x y K=AF c' x' y' K:=by rw[h,h2,h3]
@[congr] theorem RQ{x x':AV}{K:AV->Prop}(h:x=x'):Pr x K=Pr x' K:=by rw[h]
@[congr] theorem Ql{x x':AV}{i:Nat}{K:AV->Prop}(h:x=x'):Jt x i K=Jt x' i K:=by rw[h]
@[congr] theorem Py{f f':AV}{l l':List AV}{S:St}{K:AV->St->Prop}(h:f=f')(h2:l=l'):D6 f l S K=D6 f' l' S K:=by rw[h,h2]
@[go_sem] theorem gd_tt{A B:Prop}:gd (.bool true) true A B=A:=by simp[gd]
@[go_sem] theorem gd_ff{A B:Prop}:gd (.bool false) false A B=A:=by simp[gd]
@[go_sem] theorem gd_tf{A B:Prop}:gd (.bool true) false A B=B:=by simp[gd]
@[go_sem] theorem gd_ft{A B:Prop}:gd (.bool false) true A B=B:=by simp[gd]
@[go_sem] theorem cd_t{A B:Prop}:cd (.bool true) A B=A:=by simp[cd]
@[go_sem] theorem cd_f{A B:Prop}:cd (.bool false) A B=B:=by simp[cd]
@[go_sem] theorem aPick_t{x y:AV}{K:AV->Prop}:AF (.bool true) x y K=K x:=by simp[AF]
@[go_sem] theorem aPick_f{x y:AV}{K:AV->Prop}:AF (.bool false) x y K=K y:=by simp[AF]
attribute [go_sem] Pr Jt D6 Mt AG
section
variable {O O':Tm} {S:St} {K1:AV->Prop} {K2:AV->St->Prop} {K3:Tm->St->Prop} {KS:St->Prop} {x x' y y':AV} {t t2 f:Nat}
@[congr] theorem Sy{c:Code}{Q:AX->Tm->St->Prop}(h:O=O'):Aw c Q O S=Aw c Q O' S:=by rw[h]
@[congr] theorem RG{ops:Array Oper}{l:List Oper}(h:O=O'):Es ops l O S K3=Es ops l O' S K3:=by rw[h]
@[congr] theorem RI{ops:Array Oper}(h:O=O'):Ix ops O S K3=Ix ops O' S K3:=by rw[h]
@[congr] theorem RH{l:List Oper}{pend pend':List (Nat×eo)}{H:Tm->List (Nat×eo)->Prop}(h:O=O')(hp:pend=pend'):Gf l O S pend H=Gf l O' S pend' H:=by rw[h,hp]
@[congr] theorem RF{ops l:List Oper}{js:List (List Nat)}(h:O=O'):QJ ops js l O S K3=QJ ops js l O' S K3:=by rw[h]
@[congr] theorem Pq{pend pend':List (Nat×eo)}(h:O=O')(hp:pend=pend'):vJ pend O S K3=vJ pend' O' S K3:=by rw[h,hp]
@[congr] theorem RP{o:Oper}(h:O=O'):Nx o O S K2=Nx o O' S K2:=by rw[h]
@[congr] theorem Px{c:Call}(h:O=O'):xR O c S K2=xR O' c S K2:=by rw[h]
@[congr] theorem NG:oT t S K2=oT t S K2:=rfl
@[congr] theorem Qm(h:x=x'):kJ t x S K2=kJ t x' S K2:=by rw[h]
@[congr] theorem Pt(h:x=x')(h2:y=y'):lP t x y S K2=lP t x' y' S K2:=by rw[h,h2]
@[congr] theorem Pu(h:x=x'):rI t x S K1=rI t x' S K1:=by rw[h]
@[congr] theorem NB(h:x=x')(h2:y=y'):ti t x y S KS=ti t x' y' S KS:=by rw[h,h2]
@[congr] theorem ND(h:x=x')(h2:y=y'):tj t x y K1=tj t x' y' K1:=by rw[h,h2]
@[congr] theorem NE(h:x=x'):tn t x f K1=tn t x' f K1:=by rw[h]
@[congr] theorem Qj(h:x=x'):H5 t x K1=H5 t x' K1:=by rw[h]
@[congr] theorem Qn{op:BinOp}(h:x=x')(h2:y=y'):H9 op t x y K1=H9 op t x' y' K1:=by rw[h,h2]
@[congr] theorem RN{op:UnOp}(h:x=x'):RO op x K1=RO op x' K1:=by rw[h]
@[congr] theorem Pw(h:x=x'):AJ t t2 x K1=AJ t t2 x' K1:=by rw[h]
@[congr] theorem NF{ps ps':List (Nat×AV)}(h:ps=ps'):tp t ps K1=tp t ps' K1:=by rw[h]
@[congr] theorem H7{n:Nat}{ps ps':List (Nat×AV)}(h:ps=ps'):da t n ps S K2=da t n ps' S K2:=by rw[h]
@[congr] theorem NC{lo lo' hi hi' mx mx':Option AV}(h:x=x')(h1:lo=lo')(h2:hi=hi')(h3:mx=mx'):li t x lo hi mx K1=li t x' lo' hi' mx' K1:=by rw[h,h1,h2,h3]
@[congr] theorem M5(h:x=x')(h2:y=y'):gD t t2 x y S K2=gD t t2 x' y' S K2:=by rw[h,h2]
@[congr] theorem Pv(h:x=x')(h2:y=y'):xP t x y S K2=xP t x' y' S K2:=by rw[h,h2]
@[congr] theorem Qh{rs:List ResultVar}{K:List AV->Prop}(h:O=O'):Bz rs O S K=Bz rs O' S K:=by rw[h]
@[congr] theorem Qk{rs:List ResultVar}{e:AX}(h:O=O'):D5 rs K2 e O S=D5 rs K2 e O' S:=by rw[h]
@[congr] theorem PK{args args':List AV}{z:AV}(h:args=args'):uX f args S z=uX f args' S z:=by rw[h]
end
section
variable {Q:AX->Tm->St->Prop} {O:Tm} {S:St} {x y c:Code} {id i:Nat} {ops:Array Oper} {K:Tm->St->Prop} {H:AV->St->Prop} {l:List Oper} {o:Oper}
@[go_sem ↓] theorem aw_skip:Aw .skip Q O S=Q .normal O S:=by rw[pN,aw]
@[go_sem ↓] theorem RE:Aw (.region id ops false) Q O S=Es ops ops.toList O S (Q .normal):=by rw[pN,xf,aw]
@[go_sem ↓] theorem aw_draw:Aw (.region id ops true) Q O S=AwDK ops O S (Q .normal):=by unfold AwDK;rw[pN,tA,aw]
@[go_sem ↓] theorem aw_lp:Aw (.loop c) Q O S=AwLK c Q O S:=rfl
@[go_sem ↓] theorem MX:Aw (.seq x y) Q O S=Aw x (AX.seq (Aw y Q) Q) O S:=by rw[pN,aw]
@[go_sem ↓] theorem aw_block:Aw (.block id c) Q O S=Aw c (AX.blk id Q) O S:=by rw[pN,aw]
@[go_sem ↓] theorem aw_exit:Aw (.exit id) Q O S=Q (.exit id) O S:=by rw[pN,aw]
@[go_sem ↓] theorem aw_scope:Aw (.scope x) Q O S=Aw x Q O S:=by rw[pN,aw]
@[go_sem ↓] theorem aw_label{l:Nat}:Aw (.label l) Q O S=Q .normal O S:=by rw[pN,aw]
@[go_sem ↓] theorem aw_ret:Aw .ret Q O S=Q .ret O S:=by rw[pN,aw]
@[go_sem ↓] theorem zA:AX.seq K Q .normal=K:=rfl
@[go_sem ↓] theorem seq_ret:AX.seq K Q .ret=Q .ret:=rfl
@[go_sem ↓] theorem seq_exit:AX.seq K Q (.exit i)=Q (.exit i):=rfl
@[go_sem ↓] theorem RC:AX.blk id Q .normal=Q .normal:=rfl
@[go_sem ↓] theorem blk_ret:AX.blk id Q .ret=Q .ret:=rfl
@[go_sem ↓] theorem MT:AX.blk id Q (.exit i)=if i=id then Q .normal else Q (.exit i):=rfl
@[go_sem ↓] theorem awL_nil:Es ops [] O S K=K O S:=by rw[xf,Js]
def aC(I:Tm->St->Prop)(μ:Tm->St->Nat)(a:I O S)(b:∀O S,I O S->Aw c (AX.seq (fun O' S'=>I O' S'/\μ O' S' < μ O S) Q) O S):Aw (.loop c) Q O S:=by
 rw[pN]at *;exact⟨I,μ,a,b⟩
end
def OE{b c:Bool}:((b=c->p)/\(b=!c->q))=if b=c then p else q:=by
 cases b<;>cases c<;>simp
def Mh{b:Bool}:((b=true->p)/\(b=false->q))=if b=true then p else q:=by
 cases b<;>simp
@[go_sem ↓] theorem Hw{e:Operand}{x y:Code}{Q:AX->Tm->St->Prop}{O:Tm}{S:St}:Aw (.cond e x y) Q O S=cd (ev O e) (Aw x Q O S) (Aw y Q O S):=by
 rw[pN,aw];unfold cd
 cases ev O e<;>first|rfl|exact Mh
@[go_sem ↓] theorem awL_go{ops:Array Oper}{l:List Oper}{O:Tm}{S:St}{K:Tm->St->Prop}{o:Oper}:Es ops (o::l) O S K=(match o.guard with
  | ae=>Nx o O S (fun z S'=>Es ops l (O.put o.dst z) S' K)
  | some (j,want)=>gd (Iz ops O j) want (Nx o O S (fun z S'=>Es ops l (O.put o.dst z) S' K)) (Es ops l (O.put o.dst .any) S K)):=by
 rw[xf,xg,Js]
 cases o.guard with
 | none=>rfl
 | some p =>
  obtain⟨j,want⟩:=p;simp only[gd]
  cases Iz ops O j<;>first|rfl|exact OE
@[go_sem ↓] theorem aCall_go{O:Tm}{c:Call}{S:St}{K:AV->St->Prop}:xR O c S K=(match c.callee with
 | .value f=>D6 (ev O f) (c.args.toList.map (ev O)) S K
 | .builtin .len=>(match c.args.toList,c.argTypes.toList with
  | [x],[t]=>H5 t (ev O x) (fun z=>K z S)
  | _,_=>False)
 | .builtin .max=>(match c.args.toList with
  | [x,y]=>Ps (ev O x) (ev O y) (fun z=>K z S)
  | _=>False)
 | .builtin .append=>(match c.args.toList,c.argTypes.toList with
  | [s,x],[t,t']=>if t'=3 then KO t (ev O s) (ev O x) S K else AM t t' (ev O s) (ev O x) S K
  | _,_=>False)
 | .builtin .copy=>(match c.args.toList,c.argTypes.toList with
  | [s,x],[t,_]=>AI t (ev O s) (ev O x) S K
  | _,_=>False)
 | _=>False):=rfl
@[go_sem ↓] theorem AOp_go{o:Oper}{O:Tm}{S:St}{K:AV->St->Prop}:Nx o O S K=(match o.op with
  | .move x=>K (ev O x) S
  | .assign x=>K (ev O x) S
  | .pick c x y=>AF (ev O c) (ev O x) (ev O y) (fun z=>K z S)
  | .alloc t=>oT t S K
  | .box t x=>kJ t (ev O x) S K
  | .build t ps=>tp t (ps.toList.map fun p=>(p.1,ev O p.2)) (fun z=>K z S)
  | .buildSlice t n ps=>da t n (ps.toList.map fun p=>(p.1,ev O p.2)) S K
  | .load t x=>rI t (ev O x) S (fun z=>K z S)
  | .store t x y=>ti t (ev O x) (ev O y) S (fun S'=>K .any S')
  | .nilCheck x=>Pr (ev O x) (fun z=>K z S)
  | .binOp op t x y _=>H9 op t (ev O x) (ev O y) (fun z=>K z S)
  | .unOp op _ x=>RO op (ev O x) (fun z=>K z S)
  | .convert s d x=>AJ s d (ev O x) (fun z=>K z S)
  | .makeFunc (.func f) fi cs=>AG f (fi.toList.map (ev O)) (cs.toList.map (ev O)) (fun z=>K z S)
  | .makeSlice t x y=>lP t (ev O x) (ev O y) S K
  | .slice t x lo hi mx=>li t (ev O x) (lo.map (ev O)) (hi.map (ev O)) (mx.map (ev O)) (fun z=>K z S)
  | .fieldAddr t x f=>tn t (ev O x) f (fun z=>K z S)
  | .indexAddr t x i=>tj t (ev O x) (ev O i) (fun z=>K z S)
  | .index t x i=>BA t (ev O x) (ev O i) (fun z=>K z S)
  | .extract x i=>Jt (ev O x) i (fun z=>K z S)
  | .call c=>xR O c S K
  | _=>False):=by rw[xg,D4]<;>rfl
def fy{fn:Func}(d:ak.funcs[f]? = some fn)(e:fn.body=some c){args:List AV}{S:St}{post:AV->St->Prop}(N:Nat)(g:fn.ntmps=N)(b:jG N c=true)(a:args.length<=N)
  (h:Aw c (D5 fn.results.toList post) (LB args) S):cJ f args S post:=sC d e N g b a (by rw[pN]at h;exact h)
def B5{fn:Func}(e:ak.funcs[f]? = some fn)(g:fn.body=some c){args:List AV}{S:St}{post:AV->St->Prop}(N:Nat)(i:fn.ntmps=N)(b:jG N c=true)(a:args.length<=N)(d:fn.results.size≠0)
  (h:Aw c (D5 fn.results.toList post) (LB args) S):cJ f args S post:=C7 e g N i b a d (by rw[pN]at h;exact h)
@[go_sem] theorem put_hit{O:Tm}{d:Nat}{x:AV}:O.put (some d) x d=x:=by simp[Tm.put_eq]
@[go_sem] theorem put_miss{O:Tm}{d t:Nat}{x:AV}(h:t≠d):O.put (some d) x t=O t:=by simp[Tm.put_eq,h]
@[go_sem] theorem put_no{O:Tm}{x:AV}:O.put ae x=O:=by rw[Tm.put_eq]
noncomputable def Ny(k:Nat):List AV->Tm
 | []=>fun _=>.any
 | a::l=>(Ny (k+1) l).put (some k) a
theorem Lz:∀(l:List AV) (k t:Nat),Ny k l t=if k<=t then l.getD (t-k) .any else .any
 | [],k,t=>by simp[Ny]
 | a::l,k,t=>by
  simp only[Ny,Tm.put_eq];by_cases e:t=k
  .subst e;simp
  .rw[ah e,Lz l (k+1) t];by_cases h:k<=t
   .rw[aj om,aj h,(om:t-k=(t-(k+1))+1)];simp
   .rw[ah om,ah h]
def jZ(l:List AV):LB l=Ny 0 l:=by funext t;rw[Lz];simp[LB]
def iZ{fn:Func}(g:ak.funcs[f]? = some fn)(i:fn.ntmps=N)(e:fn.results=R)
  (h:Aw c (D5 R.toList post) (Ny 0 args) S) (j:fn.body=some c:=by exact rfl) (b:jG N c=true:=by kernel_rfl) (a:args.length<=N:=by simp) (d:R.size≠0:=by simp):cJ f args S post :=
 B5 g j N i b a (by rw[e];exact d) (by rw[e,jZ];exact h)
@[go_sem] theorem tmP_nil{k:Nat}:Ny k []=fun _=>.any:=rfl
@[go_sem] theorem tmP_cons{k:Nat}{a:AV}{l:List AV}:Ny k (a::l)=(Ny (k+1) l).put (some k) a:=rfl
@[go_sem ↓] theorem alloc50{S:St}{K:AV->St->Prop}:oT 50 S K=ax S (fun b=>K (.ptr 2 b 0) (S.upd b ⟨50,2,1,fun _=>.big 0⟩)):=rfl
@[go_sem ↓] theorem alloc52{S:St}{K:AV->St->Prop}:oT 52 S K=ax S (fun b=>K (.ptr 1 b 0) (S.upd b ⟨52,1,1,fun _=>.nil⟩)):=rfl
@[go_sem ↓] theorem alloc4{S:St}{K:AV->St->Prop}:oT 4 S K=ax S (fun b=>K (.ptr 1 b 0) (S.upd b ⟨4,1,1,fun _=>.bool false⟩)):=rfl
@[go_sem ↓] theorem alloc167{S:St}{K:AV->St->Prop}:oT 167 S K=ax S (fun b=>K (.ptr 2 b 0) (S.upd b ⟨167,2,2,fun _=>.big 0⟩)):=rfl
@[go_sem] theorem ca{S:St}{b:Nat}{X:eo}:S.upd b X b=some X:=by simp[St.upd]
@[go_sem] theorem aG{S:St}{b c:Nat}{X:eo}(h:c≠b):S.upd b X c=S c:=by simp[St.upd,h]
@[go_sem] theorem slots_2:fF 2=some (1,1):=rfl
@[go_sem] theorem slots_3:fF 3=some (1,1):=rfl
@[go_sem] theorem slots_4:fF 4=some (1,1):=rfl
@[go_sem] theorem slots_5:fF 5=some (1,1):=rfl
@[go_sem] theorem slots_22:fF 22=some (1,1):=rfl
@[go_sem] theorem slots_25:fF 25=some (1,1):=rfl
@[go_sem] theorem slots_28:fF 28=some (1,1):=rfl
@[go_sem] theorem slots_29:fF 29=some (1,1):=rfl
@[go_sem] theorem slots_34:fF 34=some (1,1):=rfl
@[go_sem] theorem slots_48:fF 48=some (1,1):=rfl
@[go_sem] theorem P8:gC 50 0=ae:=rfl
@[go_sem] theorem P7:gC 50 1=ae:=rfl
@[go_sem] theorem elemT_48:dO 48=ae:=rfl
@[go_sem] theorem slots_41:fF 41=some (1,1):=rfl
@[go_sem] theorem slots_52:fF 52=some (1,1):=rfl
@[go_sem] theorem slots_59:fF 59=some (1,1):=rfl
@[go_sem] theorem slots_97:fF 97=some (1,1):=rfl
@[go_sem] theorem Sl:fF 146=some (1,1):=rfl
@[go_sem] theorem Sk:fF 158=some (1,1):=rfl
@[go_sem] theorem Sg:fF 192=some (1,1):=rfl
@[go_sem] theorem Sd:fF 216=some (1,1):=rfl
@[go_sem] theorem slots_50:fF 50=some (2,1):=rfl
@[go_sem] theorem Si:fF 167=some (2,2):=rfl
@[go_sem] theorem Sf:fF 195=some (2,2):=rfl
@[go_sem] theorem Se:fF 197=some (2,7):=rfl
@[go_sem] theorem slots_24:fF 24=some (1,4):=rfl
@[go_sem] theorem slots_27:fF 27=some (1,6):=rfl
@[go_sem] theorem Sm:fF 107=some (1,2):=rfl
@[go_sem] theorem Sj:fF 160=some (1,4):=rfl
@[go_sem] theorem Sh:fF 183=some (1,2):=rfl
@[go_sem] theorem Sc:fF 218=some (1,2):=rfl
@[go_sem] theorem elemT_22:dO 22=some 41:=rfl
@[go_sem] theorem elemS_41:cb 41=1:=rfl
@[go_sem] theorem elemT_28:dO 28=some 29:=rfl
@[go_sem] theorem elemT_29:dO 29=some 2:=rfl
@[go_sem] theorem elemT_52:dO 52=some 59:=rfl
@[go_sem] theorem elemT_59:dO 59=some 50:=rfl
@[go_sem] theorem Sv:dO 146=some 3:=rfl
@[go_sem] theorem Su:dO 192=some 52:=rfl
@[go_sem] theorem Ss:dO 216=some 59:=rfl
@[go_sem] theorem elemS_2:cb 2=1:=rfl
@[go_sem] theorem elemS_3:cb 3=1:=rfl
@[go_sem] theorem elemS_29:cb 29=1:=rfl
@[go_sem] theorem elemS_59:cb 59=1:=rfl
@[go_sem] theorem elemS_50:cb 50=2:=rfl
@[go_sem] theorem elemS_52:cb 52=1:=rfl
@[go_sem] theorem make_28{k k':IntKind}{n n':Int}{S:St}{K:AV->St->Prop}:lP 28 (.int k n) (.int k' n') S K=((AV.int k n=.int k' n')/\(0<=n/\n<=1099511627776)/\ax S (fun b=>K (.sl 1 b 0 n.toNat) (S.upd b ⟨29,1,n.toNat,fun _=>.nil⟩))):=by
 simp only[lP,dO,fX,cb,ke];rfl
@[go_sem] theorem make_29{k k':IntKind}{n n':Int}{S:St}{K:AV->St->Prop}:lP 29 (.int k n) (.int k' n') S K=((AV.int k n=.int k' n')/\(0<=n/\n<=1099511627776)/\ax S (fun b=>K (.sl 1 b 0 n.toNat) (S.upd b ⟨2,1,n.toNat,fun _=>.int .i64 0⟩))):=by
 simp only[lP,dO,fX,cb,ke];rfl
@[go_sem] theorem make_52{k k':IntKind}{n n':Int}{S:St}{K:AV->St->Prop}:lP 52 (.int k n) (.int k' n') S K=((AV.int k n=.int k' n')/\(0<=n/\n<=1099511627776)/\ax S (fun b=>K (.sl 1 b 0 n.toNat) (S.upd b ⟨59,1,n.toNat,fun _=>.nil⟩))):=by
 simp only[lP,dO,fX,cb,ke];rfl
@[go_sem] theorem make_59{k k':IntKind}{n n':Int}{S:St}{K:AV->St->Prop}:lP 59 (.int k n) (.int k' n') S K=((AV.int k n=.int k' n')/\(0<=n/\n<=1099511627776)/\ax S (fun b=>K (.sl 2 b 0 n.toNat) (S.upd b ⟨50,2,n.toNat,fun _=>.big 0⟩))):=by
 simp only[lP,dO,fX,cb,ke];rfl
@[go_sem] theorem make_146{k k':IntKind}{n n':Int}{S:St}{K:AV->St->Prop}:lP 146 (.int k n) (.int k' n') S K=((AV.int k n=.int k' n')/\(0<=n/\n<=1099511627776)/\ax S (fun b=>K (.sl 1 b 0 n.toNat) (S.upd b ⟨3,1,n.toNat,fun _=>.int .i64 0⟩))):=by
 simp only[lP,dO,fX,cb,ke];rfl
@[go_sem] theorem make_216{k k':IntKind}{n n':Int}{S:St}{K:AV->St->Prop}:lP 216 (.int k n) (.int k' n') S K=((AV.int k n=.int k' n')/\(0<=n/\n<=1099511627776)/\ax S (fun b=>K (.sl 1 b 0 n.toNat) (S.upd b ⟨59,1,n.toNat,fun _=>.nil⟩))):=by
 simp only[lP,dO,fX,cb,ke];rfl
@[go_sem] theorem Qf:gC 24 0=some (1,0):=rfl
@[go_sem] theorem Qe:gC 24 1=some (1,1):=rfl
@[go_sem] theorem Qd:gC 24 2=some (1,2):=rfl
@[go_sem] theorem Qc:gC 24 3=some (1,3):=rfl
@[go_sem] theorem Qb:gC 27 0=some (1,0):=rfl
@[go_sem] theorem Qa:gC 27 1=some (1,4):=rfl
@[go_sem] theorem P9:gC 27 2=some (1,5):=rfl
@[go_sem] theorem O4:gC 107 0=some (1,0):=rfl
@[go_sem] theorem O3:gC 107 1=some (1,1):=rfl
@[go_sem] theorem O2:gC 160 0=some (1,0):=rfl
@[go_sem] theorem O1:gC 160 1=some (1,1):=rfl
@[go_sem] theorem O0:gC 160 2=some (1,2):=rfl
@[go_sem] theorem OZ:gC 160 3=some (1,3):=rfl
@[go_sem] theorem OY:gC 167 0=some (2,0):=rfl
@[go_sem] theorem OX:gC 167 1=some (2,1):=rfl
@[go_sem] theorem OW:gC 183 0=some (1,0):=rfl
@[go_sem] theorem OV:gC 183 1=some (1,1):=rfl
@[go_sem] theorem OU:gC 197 0=some (2,0):=rfl
@[go_sem] theorem OT:gC 197 1=some (2,1):=rfl
@[go_sem] theorem OS:gC 197 2=some (2,2):=rfl
@[go_sem] theorem OR:gC 197 3=some (2,3):=rfl
@[go_sem] theorem OQ:gC 197 4=some (2,5):=rfl
@[go_sem] theorem OP:gC 218 0=some (1,0):=rfl
@[go_sem] theorem OO:gC 218 1=some (1,1):=rfl
@[go_sem] theorem kindT_2:xG 2=some .i64:=rfl
@[go_sem] theorem kindT_3:xG 3=some .i64:=rfl
@[go_sem] theorem kindT_5:xG 5=some .u8:=rfl
@[go_sem] theorem kindT_34:xG 34=some .i64:=rfl
@[go_sem] theorem kindT_97:xG 97=some .u64:=rfl
@[go_sem] theorem srcT_2:C6 2=true:=rfl
@[go_sem] theorem srcT_3:C6 3=true:=rfl
@[go_sem] theorem srcT_5:C6 5=true:=rfl
@[go_sem] theorem srcT_25:C6 25=true:=rfl
@[go_sem] theorem srcT_41:C6 41=true:=rfl
@[go_sem] theorem srcT_97:C6 97=true:=rfl
@[go_sem] theorem box_2{x:AV}{S:St}{K:AV->St->Prop}:kJ 2 x S K=(ei 1 x/\ax S (fun b=>K (.ptr 1 b 0) (S.upd b ⟨2,1,1,fun _=>x⟩))):=rfl
@[go_sem] theorem box_3{x:AV}{S:St}{K:AV->St->Prop}:kJ 3 x S K=(ei 1 x/\ax S (fun b=>K (.ptr 1 b 0) (S.upd b ⟨3,1,1,fun _=>x⟩))):=rfl
@[go_sem] theorem box_4{x:AV}{S:St}{K:AV->St->Prop}:kJ 4 x S K=(ei 1 x/\ax S (fun b=>K (.ptr 1 b 0) (S.upd b ⟨4,1,1,fun _=>x⟩))):=rfl
@[go_sem] theorem box_5{x:AV}{S:St}{K:AV->St->Prop}:kJ 5 x S K=(ei 1 x/\ax S (fun b=>K (.ptr 1 b 0) (S.upd b ⟨5,1,1,fun _=>x⟩))):=rfl
@[go_sem] theorem box_22{x:AV}{S:St}{K:AV->St->Prop}:kJ 22 x S K=(ei 1 x/\ax S (fun b=>K (.ptr 1 b 0) (S.upd b ⟨22,1,1,fun _=>x⟩))):=rfl
@[go_sem] theorem box_25{x:AV}{S:St}{K:AV->St->Prop}:kJ 25 x S K=(ei 1 x/\ax S (fun b=>K (.ptr 1 b 0) (S.upd b ⟨25,1,1,fun _=>x⟩))):=rfl
@[go_sem] theorem box_28{x:AV}{S:St}{K:AV->St->Prop}:kJ 28 x S K=(ei 1 x/\ax S (fun b=>K (.ptr 1 b 0) (S.upd b ⟨28,1,1,fun _=>x⟩))):=rfl
@[go_sem] theorem box_29{x:AV}{S:St}{K:AV->St->Prop}:kJ 29 x S K=(ei 1 x/\ax S (fun b=>K (.ptr 1 b 0) (S.upd b ⟨29,1,1,fun _=>x⟩))):=rfl
@[go_sem] theorem box_34{x:AV}{S:St}{K:AV->St->Prop}:kJ 34 x S K=(ei 1 x/\ax S (fun b=>K (.ptr 1 b 0) (S.upd b ⟨34,1,1,fun _=>x⟩))):=rfl
@[go_sem] theorem box_41{x:AV}{S:St}{K:AV->St->Prop}:kJ 41 x S K=(ei 1 x/\ax S (fun b=>K (.ptr 1 b 0) (S.upd b ⟨41,1,1,fun _=>x⟩))):=rfl
@[go_sem] theorem box_52{x:AV}{S:St}{K:AV->St->Prop}:kJ 52 x S K=(ei 1 x/\ax S (fun b=>K (.ptr 1 b 0) (S.upd b ⟨52,1,1,fun _=>x⟩))):=rfl
@[go_sem] theorem box_59{x:AV}{S:St}{K:AV->St->Prop}:kJ 59 x S K=(ei 1 x/\ax S (fun b=>K (.ptr 1 b 0) (S.upd b ⟨59,1,1,fun _=>x⟩))):=rfl
@[go_sem] theorem box_97{x:AV}{S:St}{K:AV->St->Prop}:kJ 97 x S K=(ei 1 x/\ax S (fun b=>K (.ptr 1 b 0) (S.upd b ⟨97,1,1,fun _=>x⟩))):=rfl
@[go_sem] theorem box_146{x:AV}{S:St}{K:AV->St->Prop}:kJ 146 x S K=(ei 1 x/\ax S (fun b=>K (.ptr 1 b 0) (S.upd b ⟨146,1,1,fun _=>x⟩))):=rfl
@[go_sem] theorem box_158{x:AV}{S:St}{K:AV->St->Prop}:kJ 158 x S K=(ei 1 x/\ax S (fun b=>K (.ptr 1 b 0) (S.upd b ⟨158,1,1,fun _=>x⟩))):=rfl
@[go_sem] theorem box_192{x:AV}{S:St}{K:AV->St->Prop}:kJ 192 x S K=(ei 1 x/\ax S (fun b=>K (.ptr 1 b 0) (S.upd b ⟨192,1,1,fun _=>x⟩))):=rfl
@[go_sem] theorem box_216{x:AV}{S:St}{K:AV->St->Prop}:kJ 216 x S K=(ei 1 x/\ax S (fun b=>K (.ptr 1 b 0) (S.upd b ⟨216,1,1,fun _=>x⟩))):=rfl
@[go_sem] theorem box_50{x:AV}{S:St}{K:AV->St->Prop}:kJ 50 x S K=(ei 2 x/\ax S (fun b=>K (.ptr 2 b 0) (S.upd b ⟨50,2,1,fun _=>x⟩))):=rfl
@[go_sem] theorem box_167{l:List AV}{S:St}{K:AV->St->Prop}:kJ 167 (.agg l) S K=(l.length=2/\(∀z∈l,ei 2 z)/\ax S (fun b=>K (.ptr 2 b 0) (S.upd b ⟨167,2,2,fun j=>l.getD j .any⟩))):=rfl
@[go_sem] theorem box_195{l:List AV}{S:St}{K:AV->St->Prop}:kJ 195 (.agg l) S K=(l.length=2/\(∀z∈l,ei 2 z)/\ax S (fun b=>K (.ptr 2 b 0) (S.upd b ⟨195,2,2,fun j=>l.getD j .any⟩))):=rfl
@[go_sem] theorem box_197{l:List AV}{S:St}{K:AV->St->Prop}:kJ 197 (.agg l) S K=(l.length=7/\(∀z∈l,ei 2 z)/\ax S (fun b=>K (.ptr 2 b 0) (S.upd b ⟨197,2,7,fun j=>l.getD j .any⟩))):=rfl
@[go_sem] theorem box_24{l:List AV}{S:St}{K:AV->St->Prop}:kJ 24 (.agg l) S K=(l.length=4/\(∀z∈l,ei 1 z)/\ax S (fun b=>K (.ptr 1 b 0) (S.upd b ⟨24,1,4,fun j=>l.getD j .any⟩))):=rfl
@[go_sem] theorem box_27{l:List AV}{S:St}{K:AV->St->Prop}:kJ 27 (.agg l) S K=(l.length=6/\(∀z∈l,ei 1 z)/\ax S (fun b=>K (.ptr 1 b 0) (S.upd b ⟨27,1,6,fun j=>l.getD j .any⟩))):=rfl
@[go_sem] theorem box_107{l:List AV}{S:St}{K:AV->St->Prop}:kJ 107 (.agg l) S K=(l.length=2/\(∀z∈l,ei 1 z)/\ax S (fun b=>K (.ptr 1 b 0) (S.upd b ⟨107,1,2,fun j=>l.getD j .any⟩))):=rfl
@[go_sem] theorem box_160{l:List AV}{S:St}{K:AV->St->Prop}:kJ 160 (.agg l) S K=(l.length=4/\(∀z∈l,ei 1 z)/\ax S (fun b=>K (.ptr 1 b 0) (S.upd b ⟨160,1,4,fun j=>l.getD j .any⟩))):=rfl
@[go_sem] theorem box_183{l:List AV}{S:St}{K:AV->St->Prop}:kJ 183 (.agg l) S K=(l.length=2/\(∀z∈l,ei 1 z)/\ax S (fun b=>K (.ptr 1 b 0) (S.upd b ⟨183,1,2,fun j=>l.getD j .any⟩))):=rfl
@[go_sem] theorem box_218{l:List AV}{S:St}{K:AV->St->Prop}:kJ 218 (.agg l) S K=(l.length=2/\(∀z∈l,ei 1 z)/\ax S (fun b=>K (.ptr 1 b 0) (S.upd b ⟨218,1,2,fun j=>l.getD j .any⟩))):=rfl
@[go_sem] theorem bs_59{x:AV}{S:St}{K:AV->St->Prop}:da 59 1 [(0,x)] S K=(ei 2 x/\ax S (fun b=>K (.sl 2 b 0 1) (S.upd b ⟨50,2,1,fun j=>[x].getD j .any⟩))):=by
 simp only[da,dO,cb];simp[ez,fX,ax]
@[go_sem] theorem hbs_59{x z:AV}:eN 59 1 [(0,x)] z=(ei 2 x/\z=.lst 2 1 (fun j=>[x].getD j .any)):=by
 simp only[eN,dO,cb];simp[ez,fX]
@[go_sem] theorem bs_52{x:AV}{S:St}{K:AV->St->Prop}:da 52 1 [(0,x)] S K=(ei 1 x/\ax S (fun b=>K (.sl 1 b 0 1) (S.upd b ⟨59,1,1,fun j=>[x].getD j .any⟩))):=by
 simp only[da,dO,cb];simp[ez,fX,ax]
@[go_sem] theorem hbs_52{x z:AV}:eN 52 1 [(0,x)] z=(ei 1 x/\z=.lst 1 1 (fun j=>[x].getD j .any)):=by
 simp only[eN,dO,cb];simp[ez,fX]
@[go_sem] theorem bs_29{x:AV}{S:St}{K:AV->St->Prop}:da 29 1 [(0,x)] S K=(ei 1 x/\ax S (fun b=>K (.sl 1 b 0 1) (S.upd b ⟨2,1,1,fun j=>[x].getD j .any⟩))):=by
 simp only[da,dO,cb];simp[ez,fX,ax]
@[go_sem] theorem hbs_29{x z:AV}:eN 29 1 [(0,x)] z=(ei 1 x/\z=.lst 1 1 (fun j=>[x].getD j .any)):=by
 simp only[eN,dO,cb];simp[ez,fX]
@[go_sem] theorem bs_28{x:AV}{S:St}{K:AV->St->Prop}:da 28 1 [(0,x)] S K=(ei 1 x/\ax S (fun b=>K (.sl 1 b 0 1) (S.upd b ⟨29,1,1,fun j=>[x].getD j .any⟩))):=by
 simp only[da,dO,cb];simp[ez,fX,ax]
@[go_sem] theorem hbs_28{x z:AV}:eN 28 1 [(0,x)] z=(ei 1 x/\z=.lst 1 1 (fun j=>[x].getD j .any)):=by
 simp only[eN,dO,cb];simp[ez,fX]
@[go_sem] theorem bs_146{x:AV}{S:St}{K:AV->St->Prop}:da 146 1 [(0,x)] S K=(ei 1 x/\ax S (fun b=>K (.sl 1 b 0 1) (S.upd b ⟨3,1,1,fun j=>[x].getD j .any⟩))):=by
 simp only[da,dO,cb];simp[ez,fX,ax]
@[go_sem] theorem hbs_146{x z:AV}:eN 146 1 [(0,x)] z=(ei 1 x/\z=.lst 1 1 (fun j=>[x].getD j .any)):=by
 simp only[eN,dO,cb];simp[ez,fX]
@[go_sem] theorem bs_216{x:AV}{S:St}{K:AV->St->Prop}:da 216 1 [(0,x)] S K=(ei 1 x/\ax S (fun b=>K (.sl 1 b 0 1) (S.upd b ⟨59,1,1,fun j=>[x].getD j .any⟩))):=by
 simp only[da,dO,cb];simp[ez,fX,ax]
@[go_sem] theorem hbs_216{x z:AV}:eN 216 1 [(0,x)] z=(ei 1 x/\z=.lst 1 1 (fun j=>[x].getD j .any)):=by
 simp only[eN,dO,cb];simp[ez,fX]
attribute [go_sem] ev ofV rI ti tj tn H5 H9 RO AJ tp ei D5 Bz zk

attribute [go_sem] Bp iY ke Ts aE aH cQ ie aJ iG List.map_nil wU Jx oG forall_const
 cM List.toList_toArray cK iq
attribute [go_sem] eq_self true_implies bZ aP Bool.true_eq_false dE de dQ exists_eq_left' exists_eq_left exists_and_left and_assoc Tr false_or false_and E0 SL Lo List.drop_succ_cons yP List.isEmpty_nil List.isEmpty_cons dB ql Fa Bool.and_self Bh List.filterMap_nil
 BQ qT TE Bool.and_true cu ag exists_const
section
variable {ops:Array Oper} {l:List Oper} {O:Tm} {S:St} {K:Tm->St->Prop} {o:Oper} {pend:List (Nat×eo)} {H:Tm->List (Nat×eo)->Prop} {z:AV} {d:Nat} {X:eo} {r:List (Nat×eo)}
def aN(q:Nat)(a:xI ops q [] false=true)(h:Gf (ops.toList.take q) O S [] (fun O' pend=>if pend.isEmpty then Es ops (ops.toList.drop q) O' S K else vJ pend (Aj (qn (ops.toList.take q)) O') S (fun O S=>Es ops (ops.toList.drop q) O S K))):Ix ops O S K:=by
 rw[tA];rw[qB,xf,vI]at h;refine a9 ⟨q,[],false,_,a,h,fun O' p b=>?_⟩;split at b
 .rename_i e;exact a9 ⟨e,a9 ⟨rfl,b⟩⟩
 .exact aR ⟨rfl,_,b,fun O S h=>⟨trivial,a9 ⟨rfl,h⟩⟩⟩
def fm(q:Nat)(a:xI ops q [] true=true)(h:Gf (ops.toList.take q) O S [] (fun O' pend=>pend.isEmpty=true/\Es ops (ops.toList.drop q) O' S K)):Ix ops O S K:=by
 rw[tA];rw[qB,xf]at h;exact a9 ⟨q,[],true,_,a,h,fun O' p b=>a9 ⟨b.1,a9 ⟨rfl,b.2⟩⟩⟩
def eL(q:Nat)(js:List (List Nat))(a:xI ops q js false=true)(h:Gf (ops.toList.take q) O S [] (fun O' pend=>pend.isEmpty=true/\QJ ops.toList js (ops.toList.drop q) O' S K)):Ix ops O S K:=by
 rw[tA];rw[qB,Er]at h;exact a9 ⟨q,js,false,_,a,h,fun O' p b=>a9 ⟨b.1,aR b.2⟩⟩
def jf(q:Nat)(js:List (List Nat))(a:xI ops q js false=true)(h:Gf (ops.toList.take q) O S [] (fun O' pend=>vJ pend (Aj (qn (ops.toList.take q)) O') S (fun O S=>mH ops.toList O S (Dv js)/\QJ ops.toList js (ops.toList.drop q) O S K))):Ix ops O S K:=by
 rw[tA];rw[qB,Er,vI]at h;exact a9 ⟨q,js,false,_,a,h,fun O' p b=>aR ⟨rfl,_,b,fun O S h=>⟨h.1,aR h.2⟩⟩⟩
def oI(ops:Array Oper)(o:Oper)(O:Tm)(S:St)(K:Tm->St->Prop):Prop:=match o.guard with
 | ae=>Nx o O S (fun z S'=>K (O.put o.dst z) S')
 | some (j,want)=>(match Iz ops O j with
  | .bool b=>(b=want->Nx o O S (fun z S'=>K (O.put o.dst z) S'))/\(b=!want->K (O.put o.dst .any) S)
  | _=>False)
def stI(ops:Array Oper)(P:(Nat->Bool)->Tm->St->Prop):List Oper->Nat->Prop
 | [],_=>True
 | o::r,i=>(∀L O S,P L O S->L i=false->(vM o).all L=true->oI ops o O S (P (fun k=>if k=i then true else L k)))/\stI ops P r (i+1)
theorem IJ{ops:Array Oper}{P:(Nat->Bool)->Tm->St->Prop}:∀(l:List Oper) (i j:Nat) (o:Oper),stI ops P l i->l[j]? = some o->∀L O S,P L O S->L (i+j)=false->(∀k∈vM o,L k=true)->RR ops o O S (P (fun k=>if k=i+j then true else L k))
 | [],i,j,o,_,h=>by simp at h
 | p::r,i,0,o,h,a=>by
  simp only[dE,fW]at a;subst a;intro L O S b c d;have:=h.1 L O S b c (aF.2 d);unfold oI at this;rw[xg]at this;exact this
 | p::r,i,j+1,o,h,a=>by
  rw[de]at a;have:=IJ r (i+1) j o h.2 a;rw[(om:i+1+j=i+(j+1))]at this
  exact this
def wG(P:(Nat->Bool)->Tm->St->Prop)(a:M2 ops=true)(b:P (fun _=>false) O S)(c:stI ops P ops.toList 0)(d:∀L O S,P L O S->(∀i,i<ops.toList.length->L i=true)->K O S):Ix ops O S K:=by
 rw[tA];refine aR ⟨P,a,b,fun i o e=>?_,fun L O S f g=>d L O S f (fun i h=>g i (by simpa using h))⟩
 have:=IJ ops.toList 0 i o c (by simpa using e)
 simp only[aJ]at this;exact this
@[go_sem ↓] theorem awT_nil{os:List Oper}{js:List (List Nat)}:QJ os js [] O S K=K O S:=by rw[Er,Pm]
@[go_sem ↓] theorem awT_go{os:List Oper}{js:List (List Nat)}:QJ os js (o::l) O S K=Nx o O S (fun z S'=>mH os (O.put o.dst z) S' (Dv js)/\QJ os (Mg js) l (O.put o.dst z) S' K):=by rw[Er,xg,Pm]
@[go_sem] theorem jsHd_c{a:List Nat}{l:List (List Nat)}:Dv (a::l)=a:=rfl
@[go_sem] theorem jsNx_1{a:List Nat}:Mg [a]=[a]:=rfl
@[go_sem] theorem jsNx_2{a b:List Nat}{l:List (List Nat)}:Mg (a::b::l)=b::l:=rfl
@[go_sem] theorem Rd{os:List Oper}:mH os O S []=True:=by rw[mH]
@[go_sem ↓] theorem P4{os:List Oper}{j:Nat}{js:List Nat}:mH os O S (j::js)=((match os[j]? with
  | some o=>(match o.dst with
   | some d=>BM o O S (O d)
   | ae=>False)
  | ae=>False)/\mH os O S js):=by rw[mH]<;>rfl
@[go_sem ↓] theorem awH_nil:Gf [] O S pend H=H O pend:=by rw[qB,Gj]
@[go_sem ↓] theorem awH_go:Gf (o::l) O S pend H=(match o.op,o.dst with
  | .alloc t,some d=>(match mJ t with
   | some X=>Gf l (O.put (some d) .any) S (pend++[(d,X)]) H
   | ae=>False)
  | _,_=>∃z,BM o O S z/\Gf l (O.put o.dst z) S pend H):=by rw[qB,Gj]<;>rfl
@[go_sem ↓] theorem HOK_go:BM o O S z=((E0 o.op=true/\Nx o O S (fun z' S'=>z'=z/\S'=S))∨(match o.op with
 | .call c=>(match c.callee with
  | .value f=>Mt (ev O f) (c.args.toList.map (ev O)) S z
  | _=>False)
 | .buildSlice t n ps=>eN t n (ps.toList.map fun p=>(p.1,ev O p.2)) z
 | _=>False)):=by rw[BM,xg]<;>rfl
@[go_sem ↓] theorem SC:vJ [] O S K=K O S:=by rw[vI,oC]
@[go_sem ↓] theorem RL:vJ ((d,X)::r) O S K=ax S (fun b=>vJ r (O.put (some d) (.ptr X.es b 0)) (S.upd b X) K):=by rw[vI,oC]<;>rfl
@[go_sem] theorem SB:mJ 50=some ⟨50,2,1,fun _=>.big 0⟩:=rfl
@[go_sem] theorem SA:mJ 52=some ⟨52,1,1,fun _=>.nil⟩:=rfl
@[go_sem] theorem RK:mJ 167=some ⟨167,2,2,fun _=>.big 0⟩:=rfl
@[go_sem] theorem Sw{ds:List Nat}{t:Nat}:Aj ds O t=if ds.contains t&&!ql (O t)then .any else O t:=rfl
end
def yV(O:Tm):List Oper->Nat->AV
 | [],_=>.any
 | o::_,0=>(match o.dst with
  | some d=>O d
  | ae=>.any)
 | _::l,j+1=>yV O l j
theorem Iy(O:Tm):∀(l:List Oper) (j:Nat),Iz l.toArray O j=yV O l j
 | [],j=>by simp[Iz,yV]
 | o::l,0=>by simp[Iz,yV]<;>rfl
 | o::l,j+1=>by
  have:=Iy O l j;simp only[Iz,yV,fu,de]at this ⊢;exact this
@[go_sem] theorem yld_go{l:List Oper}{O:Tm}{j:Nat}:Iz l.toArray O j=yV O l j:=Iy O l j
@[go_sem] theorem R9{o:Oper}{l:List Oper}{O:Tm}:yV O (o::l) 0=(match o.dst with
  | some d=>O d
  | ae=>.any):=by rw[yV]
@[go_sem] theorem Sa{o:Oper}{l:List Oper}{O:Tm}{j:Nat}:yV O (o::l) (j+1)=yV O l j:=by rw[yV]
def PF(f:Nat)(args:List AV)(z:AV):Prop :=
 ∀(w:World) (vs:List Value),vD w->a8 w BH args vs->Calls ak f vs.toArray w (fun e w'=>∃v,e=.returned v/\bH w' (fun b=>b<w.heap.size) z v/\dA BH BH w w')
def VA(S:St)(x x':AV):Prop:=∀(w:World) (v:Value),eA w S->bH w S.dom x v->bH w BH x' v
def VR(S:St)(x x':AV):Prop:=∀(w:World) (v:Value),eA w S->bH w S.dom x v->bH w (fun b=>¬S.dom b) x' v
def eI(S:St):List AV->List AV->Prop
 | [],[]=>True
 | x::l,y::r=>VA S x y/\eI S l r
 | [],_::_=>False
 | _::_,[]=>False
def VA.refl(S:St)(x:AV):VA S x x:=fun _ _ _ h=>bH.turn (fun _ _ a=>a.elim) _ _ h
def VR.va(h:VR S x y):VA S x y:=fun w v a b=>bH.turn (fun _ _ c=>c.elim) _ _ (h w v a b)
def VR.mf(h:ql x=true):VR S x x:=fun _ _ _ a=>tZ h a
theorem yM{S:St}{w:World}(b:eA w S):∀(l r:List AV) (vs:List Value),eI S l r->a8 w S.dom l vs->a8 w BH r vs
 | [],[],[],_,_=>by simp[a8]
 | x::l,y::r,v::vs,h,a=>by simp only[a8]at a ⊢;exact⟨h.1 w v b a.1,yM b l r vs h.2 a.2⟩
 | [],[],_::_,_,a=>by simp[a8]at a
 | _::_,_,[],_,a=>by simp[a8]at a
 | [],_::_,_,h,_=>h.elim
 | _::_,[],_,h,_=>h.elim
theorem cC(S:St):∀l,eI S l l
 | []=>trivial
 | x::l=>⟨VA.refl S x,cC S l⟩
def PF.pureS(h:PF f args' z)(c:eI S args args'):uX f args S z:=by
 intro w vs a d;refine(h w vs a.gl (yM a _ _ _ c d)).mono ?_;rintro e w' ⟨v,rfl,g,i⟩;exact⟨v,rfl,bH.turn (fun k _ b=>by
  simp only[St.dom]at b
  cases e:S k with
  | none=>exact absurd e b
  | some X=>obtain⟨cs,j,_⟩:=a k X e;exact fT j) _ _ g,i⟩
def PF.pure'(h:PF f args z):uX f args S z:=h.pureS (cC S args)
def PF.spec(h:PF f args' z)(a:eI S args args'){post:AV->St->Prop}(b:post z S):cJ f args S post:=(h.pureS a).spec b
def PF.call(h:PF f args z){post:AV->St->Prop}(a:post z S):cJ f args S post:=h.pure'.spec a
def CE.pf(a:ql z=true)(h:CE f args z):PF f args z:=by
 intro w vs c d;refine(h St.none w vs ⟨rfl,c,fun b x g=>by simp[St.none]at g⟩ (a8.turn (fun _ _ i=>absurd rfl i) _ _ d)).mono ?_
 rintro e w' ⟨v,rfl,j,k⟩;exact⟨v,rfl,tZ a j,k⟩
def PF.of_spec(h:cJ f args St.none (fun r S'=>VR S' r z)):PF f args z:=by
 intro w vs d g;refine(h w vs ⟨rfl,d,fun b x i=>by simp[St.none]at i⟩ (a8.turn (fun _ _ c=>absurd rfl c) _ _ g)).mono ?_
 rintro e w' ⟨v,r,S',rfl,j,l,m,a⟩;refine⟨v,rfl,bH.turn (fun k _ c n=>?_) _ _ (j w' v m l),a.os,a.tape,a.output,a.size,fun k c _=>a.keep k c (fun x=>x rfl),a.shape,fun _ _ h=>h⟩;exact a.own k c n rfl
def gN{fn:Func}(e:ak.funcs[f]? = some fn)(g:fn.ntmps=N)(i:fn.results=R)
  (h:Aw c (D5 R.toList fun r S'=>VR S' r z) (Ny 0 args) St.none) (j:fn.body=some c:=by exact rfl) (b:jG N c=true:=by kernel_rfl) (a:args.length<=N:=by simp) (d:R.size≠0:=by simp):PF f args z:=PF.of_spec (iZ e g i h j b a d)
def a6(S:St)(b ty es n:Nat)(g:Nat->AV):Prop:=∃g',S b=some ⟨ty,es,n,g'⟩/\∀i,i<n->g' i=g i
def a6.of(h:S b=some ⟨ty,es,n,g⟩):a6 S b ty es n g:=⟨g,h,fun _ _=>rfl⟩
def a6.ne{c ty' es' n':Nat}(h:a6 S b ty es n g)(h':a6 S c ty' es' n' g')(d:ty≠ty'):b≠c:=by
 rintro rfl;obtain⟨x,e,_⟩:=h;obtain⟨y,a,_⟩:=h';rw[e]at a;cases a;exact d rfl
def a6.fresh{c:Nat}(h:a6 S b ty es n g)(a:S c=ae):b≠c:=by
 rintro rfl;obtain⟨x,d,_⟩:=h;rw[d]at a;cases a
def a6.upd{c:Nat}(h:a6 S b ty es n g)(a:b≠c)(X:eo):a6 (S.upd c X) b ty es n g:=by
 obtain⟨x,d,e⟩:=h;exact⟨x,by rw[aG a];exact d,e⟩
def a6.here(h:∀i,i<n->g' i=g i):a6 (S.upd b ⟨ty,es,n,g'⟩) b ty es n g:=⟨g',ca,h⟩
def a6.congr(h:a6 S b ty es n g)(c:∀i,i<n->g i=g' i):a6 S b ty es n g':=by
 obtain⟨x,d,e⟩:=h;exact⟨x,d,fun i a=>(e i a).trans (c i a)⟩
def VR.sl{off len:Nat}(f:a6 S b ty es n g)(s:off+len<=n)(i:∀j,j<len->VR S (g (off+j)) (h j)):VR S (.sl es b off len) (.lst es len h):=by
 intro w v a c;obtain⟨g',d,k⟩:=f;obtain⟨cs,e,t,l,x⟩:=a b _ d;simp only[bH]at c ⊢;obtain⟨cap,cs',ty',fr',rfl,m,_,_⟩:=c;refine⟨_,cap,rfl,m,fun y=>⟨b,es*off,rfl,fT e,fun o=>o (by simp[St.dom,d]),fun j p=>?_⟩⟩
 obtain⟨u,q,r⟩:=l (off+j) (by simp only;omega)
 refine⟨u,⟨cs,ty,(0,0),e,by rw[<-bW];exact q⟩,i j p w u a ?_⟩
 rw[<-k (off+j) om];exact r
def VR.nil:VR S .nil (.lst es 0 h):=by
 intro w v c a;simp only[bH]at a ⊢;subst a;exact⟨_,0,rfl,ag _,fun b=>absurd b om⟩
def aY(n:Nat)(r:Nat->Int):AV:=.lst 2 n (fun j=>.big (r j))
def aL(n m:Nat)(A:Nat->Nat->Int):AV:=.lst 1 n (fun i=>aY m (A i))
def aK(n:Nat)(r:Nat->Int):AV:=.lst 1 n (fun j=>.int .i64 (r j))
def av(n m:Nat)(A:Nat->Nat->Int):AV:=.lst 1 n (fun i=>aK m (A i))
def iV(S:St)(b n:Nat)(r:Nat->Int):Prop:=a6 S b 50 2 n (fun j=>.big (r j))
def oZ(S:St)(b n:Nat)(r:Nat->Int):Prop:=a6 S b 2 1 n (fun j=>.int .i64 (r j))
structure dr(S:St)(b:Nat)(g:Nat->Nat)(n m:Nat)(A:Nat->Nat->Int):Prop where
 outer:a6 S b 59 1 n (fun i=>.sl 2 (g i) 0 m)
 row:∀i,i<n->iV S (g i) m (A i)
 inj:∀i j,i<n->j<n->g i=g j->i=j
structure eh(S:St)(b:Nat)(g:Nat->Nat)(n m:Nat)(A:Nat->Nat->Int):Prop where
 outer:a6 S b 29 1 n (fun i=>.sl 1 (g i) 0 m)
 row:∀i,i<n->oZ S (g i) m (A i)
 inj:∀i j,i<n->j<n->g i=g j->i=j
def iV.vr(h:iV S b n r):VR S (.sl 2 b 0 n) (aY n r):=VR.sl h om (fun j _=>by rw[aJ];exact VR.mf rfl)
def oZ.vr(h:oZ S b n r):VR S (.sl 1 b 0 n) (aK n r):=VR.sl h om (fun j _=>by rw[aJ];exact VR.mf rfl)
def dr.vr{g:Nat->Nat}(h:dr S b g n m A):VR S (.sl 1 b 0 n) (aL n m A):=VR.sl h.outer om (fun j a=>by rw[aJ];exact(h.row j a).vr)
def eh.vr{g:Nat->Nat}(h:eh S b g n m A):VR S (.sl 1 b 0 n) (av n m A):=VR.sl h.outer om (fun j a=>by rw[aJ];exact(h.row j a).vr)
def i64_in{a:Int}(b:-9223372036854775808<=a)(c:a<=9223372036854775807):IntKind.i64.wrap a=a:=IntWalk.i64_in a ⟨b,c⟩
def dP{a:Int}(h:a=n)(b:n<=4611686018427387904):IntKind.i64.wrap a=(n:Int):=by rw[h];exact i64_in om om
abbrev ι:=AV.int .i64
abbrev ω:=IntKind.i64.wrap

abbrev az:=Nat->Nat->Int
def ap:Nat->(Nat->Int)->Int
 | 0,_=>0
 | n+1,f=>ap n f+f n
def ay{f g:Nat->Int}(h:∀i,i<n->f i=g i):ap n f=ap n g:=by
 induction n with
 | zero=>rfl
 | succ n ih=>simp only[ap];rw[ih (fun i a=>h i om),h n om]
def iN{f:Nat->Int}(h:∀i,i<n->f i=0):ap n f=0:=by
 induction n with
 | zero=>rfl
 | succ n ih=>simp only[ap];rw[ih (fun i a=>h i om),h n om];rfl
def dD(n:Nat)(f g:Nat->Int):ap n (fun i=>f i+g i)=ap n f+ap n g:=by
 induction n with
 | zero=>rfl
 | succ n ih=>simp only[ap];rw[ih];omega
def cF(n:Nat)(c:Int)(f:Nat->Int):ap n (fun i=>c*f i)=c*ap n f:=by
 induction n with
 | zero=>simp[ap]
 | succ n ih=>simp only[ap];rw[ih,yR]
def o9(n:Nat)(x y:Int)(f g:Nat->Int):ap n (fun i=>x*f i+y*g i)=x*ap n f+y*ap n g:=by
 rw[dD,cF,cF]
def cI{f:Nat->Int}(k:Nat)(c:k<n)(h:∀i,i<n->i≠k->f i=0):ap n f=f k:=by
 induction n with
 | zero=>omega
 | succ n ih =>
  simp only[ap];by_cases e:k=n
  .subst e;rw[iN (fun i b=>h i om om)];omega
  .rw[ih om (fun i b a=>h i om a),h n om om];omega
def BZ{f:Nat->Int}(k:Nat)(d:k+1<n)(h:∀i,i<n->i≠k->i≠k+1->f i=0):ap n f=f k+f (k+1):=by
 induction n with
 | zero=>omega
 | succ n ih =>
  simp only[ap];by_cases e:k+1=n
  .subst e;rw[cI k om (fun i b a=>h i om a om)]
  .rw[ih om (fun i b a c=>h i om a c),h n om om om];omega
def p9(n m:Nat)(f:Nat->Nat->Int):ap n (fun i=>ap m (fun j=>f i j))=ap m (fun j=>ap n (fun i=>f i j)):=by
 induction n with
 | zero=>simp only[ap];rw[iN];intros;rfl
 | succ n ih=>simp only[ap];rw[ih,<-dD]
def xu(j:Nat):Int:=if j%2=0 then 1 else -1
def ET(j:Nat):xu (j+1)=- xu j:=by unfold xu;split<;>split<;>omega
def zy:xu 0=1:=rfl
def skip(j k:Nat):Nat:=if k<j then k else k+1
def cut(A:az)(j:Nat):az:=fun i k=>A (i+1) (skip j k)
def det:Nat->az->Int
 | 0,_=>1
 | n+1,A=>ap (n+1) fun j=>xu j*A 0 j*det n (cut A j)
def yw(h:k<n):skip j k<n+1:=by unfold skip;split<;>omega
def aZ{A B:az}(h:∀i j,i<n->j<n->A i j=B i j):det n A=det n B:=by
 induction n generalizing A B with
 | zero=>rfl
 | succ n ih =>
  simp only[det];refine ay fun j a=>?_;rw[h 0 j om a,ih (A:=cut A j) (B:=cut B j) (fun i k c b=>h _ _ om (yw b))]
def setRow(A:az)(i:Nat)(r:Nat->Int):az:=fun a b=>if a=i then r b else A a b
def aT(A:az)(i:Nat)(r:Nat->Int):az:=fun a b=>if b=i then r a else A a b
def th(A:az)(i j:Nat)(r:Nat->Int):cut (setRow A (i+1) r) j=setRow (cut A j) i (fun k=>r (skip j k)):=by
 funext a b;simp[cut,setRow]
def FB(A:az)(j:Nat)(r:Nat->Int):cut (setRow A 0 r) j=cut A j:=by
 funext a b;simp[cut,setRow]
def ow(A:az)(a:i<n)(x y:Int)(r s:Nat->Int) :
  det n (setRow A i (fun j=>x*r j+y*s j))=x*det n (setRow A i r)+y*det n (setRow A i s):=by
 induction n generalizing A i r s with
 | zero=>omega
 | succ n ih =>
  simp only[det];rw[<-o9];refine ay fun j _=>?_
  cases i with
  | zero=>simp only[FB,setRow,aE];grind
  | succ i=>rw[th,ih _ om,th,th];simp only[setRow,Nat.reduceEqDiff,aH];grind
def rn(A:az)(c:i<n)(x:Int)(r:Nat->Int):det n (setRow A i (fun j=>x*r j))=x*det n (setRow A i r):=by
 have h:=ow A c x 0 r r;rw[aZ (B:=setRow A i (fun j=>x*r j+0*r j)) (fun a b _ _=>by simp[setRow]),h];omega
def kq(A:az)(c:i<n)(r s:Nat->Int):det n (setRow A i (fun j=>r j+s j))=det n (setRow A i r)+det n (setRow A i s):=by
 have h:=ow A c 1 1 r s;rw[aZ (B:=setRow A i (fun j=>1*r j+1*s j)) (fun a b _ _=>by simp[setRow]),h];omega
def GO(N:Nat)(g:Nat->Nat->Int):ap (N+1) (fun j=>ap N (fun k=>if k<j then g k j else-g j (k+1)))=0:=by
 induction N with
 | zero=>simp[ap]
 | succ N ih =>
  rw[show ap (N+1+1) (fun j=>ap (N+1) (fun k=>if k<j then g k j else-g j (k+1)))
  =ap (N+1) (fun j=>ap (N+1) (fun k=>if k<j then g k j else-g j (k+1)))+ap (N+1) (fun k=>if k<N+1 then g k (N+1)else-g (N+1) (k+1))from rfl]
  have a:ap (N+1) (fun j=>ap (N+1) (fun k=>if k<j then g k j else-g j (k+1)))
  =ap (N+1) (fun j=>ap N (fun k=>if k<j then g k j else-g j (k+1))+(- g j (N+1))):=by
   refine ay fun j e=>?_;simp only[ap];rw[ah om]
  have b:ap (N+1) (fun k=>if k<N+1 then g k (N+1)else-g (N+1) (k+1))=ap (N+1) (fun k=>g k (N+1)) :=
   ay fun k c=>by rw[aj c]
  rw[a,b,dD,ih];have d:ap (N+1) (fun j=>- g j (N+1))=- ap (N+1) (fun j=>g j (N+1)):=by
   have:=cF (N+1) (-1) (fun j=>g j (N+1));rw[ay (g:=fun i=>-1*g i (N+1)) (fun i _=>om),this];omega
  rw[d];omega
def C8(h:k<j)(c:Nat):skip j (skip k c)=skip k (skip (j-1) c):=by
 unfold skip;split<;>split<;>(try split)<;>(try split)<;>omega
def Jn(A:az)(o:i+1<n)(h:∀j,j<n->A i j=A (i+1) j):det n A=0:=by
 induction n generalizing A i with
 | zero=>omega
 | succ n ih =>
  cases i with
  | succ i =>
   simp only[det];exact iN fun j g=>by rw[ih (cut A j) (i:=i) om (fun k d=>h _ (yw d))];omega
  | zero =>
   obtain⟨n,rfl⟩:∃m,n=m+1:=⟨n-1,om⟩
   have e:det (n+1+1) A=ap (n+1+1) (fun j=>ap (n+1) (fun k =>
     if k<j then xu k*xu j*A 0 k*A 0 j*det n (cut (cut A j) k)else-(xu j*xu (k+1)*A 0 j*A 0 (k+1)*det n (cut (cut A (k+1)) j)))):=by
    simp only[det];refine ay fun j g=>?_;rw[<-cF];refine ay fun k d=>?_;have l:cut A j 0 k=A 0 (skip j k):=by
     show A 1 (skip j k)=_;exact(h _ (yw d)).symm
    rw[l];split
    .rename_i c;rw[show skip j k=k by unfold skip;rw[aj c]];grind
    .rename_i c;rw[show skip j k=k+1 by unfold skip;rw[ah c],ET]
     have f:cut (cut A j) k=cut (cut A (k+1)) j:=by
      funext a b;show A (a+1+1) (skip j (skip k b))=A (a+1+1) (skip (k+1) (skip j b));rw[C8 (j:=k+1) (k:=j) om];rfl
     rw[f];grind
   rw[e];exact GO (n+1) (fun k j=>xu k*xu j*A 0 k*A 0 j*det n (cut (cut A j) k))

def jC(A:az)(i:Nat):setRow A i (A i)=A:=by funext a b;simp only[setRow];split<;>simp_all
def gJ(A:az)(i:Nat):aT A i (fun a=>A a i)=A:=by funext a b;simp only[aT];split<;>simp_all
def jh(A:az){i k:Nat}(h:i≠k)(r s:Nat->Int):setRow (setRow A i r) k s=setRow (setRow A k s) i r:=by
 funext a b;simp only[setRow];grind
def DM(A:az)(b:i+1<n)(r s:Nat->Int):det n (setRow (setRow A i r) (i+1) s)=- det n (setRow (setRow A i s) (i+1) r):=by
 have a:∀t:Nat->Int,det n (setRow (setRow A i t) (i+1) t)=0:=fun t =>
  Jn _ b (fun j _=>by simp[setRow])
 have c:=a (fun j=>r j+s j);rw[kq _ om,jh _ om,jh A (k:=i+1) (s:=s) om,kq _ om,kq _ om]at c;rw[jh _ om s r,jh _ om r s];have d:=a r;have e:=a s;rw[jh _ om]at d e;omega
def mt(A:az)(c:i<k)(a:k<n)(h:∀j,j<n->A i j=A k j):det n A=0:=by
 induction k generalizing A with
 | zero=>omega
 | succ k ih =>
  by_cases e:i=k
  .subst e;exact Jn A a h
  .have b:=DM A a (A k) (A (k+1));have d:setRow (setRow A k (A k)) (k+1) (A (k+1))=A:=by rw[jC,jC]
   rw[d]at b;rw[b,ih (setRow (setRow A k (A (k+1))) (k+1) (A k)) om om (fun j f=>?_)];· rfl
   have:=h j f;simp only[setRow];rw[ah om,ah om,ah om,aj trivial];exact this
def oO(A:az)(b:i<n)(c:k<n)(a:i≠k):det n (setRow A i (A k))=0:=by
 rcases mB a with h|h
 .exact mt _ h c (fun j _=>by simp only[setRow];rw[aj trivial,ah om])
 .exact mt _ h b (fun j _=>by simp only[setRow];rw[ah om,aj trivial])
def kA(A:az)(b:i<n)(d:k<n)(a:i≠k)(x c:Int):det n (setRow A i (fun j=>x*A i j+c*A k j))=x*det n A:=by
 rw[ow A b x c (A i) (A k),oO A b d a,jC];omega
def MG(A:az)(b:i<n)(d:k<n)(a:i≠k):det n (setRow (setRow A i (A k)) k (A i))=- det n A:=by
 have c:∀t:Nat->Int,det n (setRow (setRow A i t) k t)=0:=fun t=>by
  rcases mB a with h|h
  .exact mt _ h d (fun j _=>by simp only[setRow];grind)
  .exact mt _ h b (fun j _=>by simp only[setRow];grind)
 have e:=c (fun j=>A i j+A k j);rw[kq _ d,jh _ a,jh A a (s:=A k),kq _ b,kq _ b]at e;have f:=c (A i);have g:=c (A k);rw[jh _ a]at f g;have l:setRow (setRow A k (A k)) i (A i)=A:=by rw[jC,jC]
 rw[l]at e;rw[jh _ a];omega
def dW(j:Nat):Nat->Int:=fun k=>if k=j then 1 else 0
def qo(n:Nat)(A:az)(i j:Nat):Int:=det n (setRow A i (dW j))
def Fz(A:az)(c:i<n)(m:Nat)(r:Nat->Int) :
  det n (setRow A i (fun k=>if k<m then r k else 0))=ap m (fun j=>r j*qo n A i j):=by
 induction m with
 | zero =>
  have h:=rn A c 0 (fun _=>0);rw[aZ (B:=setRow A i (fun j=>0*(fun _=>0) j)) (fun a b _ _=>by simp[setRow]),h];simp[ap]
 | succ m ih =>
  simp only[ap];rw[<-ih];have h:=ow A c 1 (r m) (fun k=>if k<m then r k else 0) (dW m)
  rw[aZ (B:=setRow A i (fun j=>1*(fun k=>if k<m then r k else 0) j+r m*dW m j)) (fun a b _ _=>?_),h]
  .show _=_+r m*det n _;omega
  .simp only[setRow,dW];split
   .by_cases e:b=m
    .subst e;simp
    .by_cases d:b<m
     .simp[e,d];omega
     .have:¬b<m+1:=om
      simp[e,d,this]
   .rfl
def Aq(A:az)(c:i<n)(r:Nat->Int):ap n (fun j=>r j*qo n A i j)=det n (setRow A i r):=by
 rw[<-Fz A c n r];exact aZ fun a b _ d=>by simp only[setRow];split<;>simp_all
def tY(A:az)(a:i<n)(b:k<n):ap n (fun j=>A k j*qo n A i j)=if i=k then det n A else 0:=by
 rw[Aq A a];split
 .rename_i e;subst e;rw[jC]
 .rename_i e;exact oO A a b e
def uG(A:az)(a:0<n)(h:∀i,i<n->A i 0=0):det n A=0:=by
 induction n generalizing A with
 | zero=>omega
 | succ n ih =>
  simp only[det];refine iN fun j b=>?_
  cases j with
  | zero=>rw[h 0 om];omega
  | succ j=>rw[ih (cut A (j+1)) om (fun i c=>by
    show A (i+1) (skip (j+1) 0)=0;rw[show skip (j+1) 0=0 from rfl];exact h _ om)];omega
def r9(A:az)(h:∀i,i<n->A (i+1) 0=0):det (n+1) A=A 0 0*det n (fun i j=>A (i+1) (j+1)):=by
 rw[det,cI 0 om]
 .rw[zy,cL];rfl
 .intro j c a
  cases j with
  | zero=>omega
  | succ j=>rw[uG (cut A (j+1)) om (fun i b=>by
    show A (i+1) (skip (j+1) 0)=0;rw[show skip (j+1) 0=0 from rfl];exact h _ b)];omega
def jW(A:az)(m:Nat):az:=fun i j=>if 0<i/\i<=m then A 0 0*A i j-A i 0*A 0 j else A i j
def Bx(A:az)(n m:Nat)(a:m<=n):det (n+1) (jW A m)=A 0 0^m*det (n+1) A:=by
 induction m with
 | zero=>rw[aZ (B:=A) (fun i j _ _=>by unfold jW;rw[ah om])];simp
 | succ m ih =>
  have e:∀i j,jW A (m+1) i j=setRow (jW A m) (m+1) (fun j=>A 0 0*jW A m (m+1) j+(- A (m+1) 0)*jW A m 0 j) i j:=by
   intro i j;simp only[setRow];split
   .rename_i e;subst e;simp only[jW];rw[aj om,ah om,ah om];grind
   .simp only[jW];by_cases h:0<i/\i<=m
    .rw[aj om,aj h]
    .rw[ah om,ah h]
  rw[aZ (fun i j _ _=>e i j),kA _ om om om,ih om,eC]
  grind
def FI(A:az):az:=fun i j=>A 0 0*A (i+1) (j+1)-A (i+1) 0*A 0 (j+1)
def MJ(A:az)(n:Nat):A 0 0*det n (FI A)=A 0 0^n*det (n+1) A:=by
 rw[<-Bx A n n (ag _),r9]
 .congr 1;exact aZ fun i j a b=>by simp only[jW,FI];rw[aj om]
 .intro i a;simp only[jW];rw[aj om];grind
def oP(A:az){c j:Nat}(r:Nat->Int)(h:c<j):cut (aT A c r) j=aT (cut A j) c (fun a=>r (a+1)):=by
 funext a b;simp only[cut,aT,skip];grind
def oQ(A:az){c j:Nat}(r:Nat->Int)(h:j<c):cut (aT A c r) j=aT (cut A j) (c-1) (fun a=>r (a+1)):=by
 funext a b;simp only[cut,aT,skip];grind
def oR(A:az)(c:Nat)(r:Nat->Int):cut (aT A c r) c=cut A c:=by
 funext a b;simp only[cut,aT,skip];grind
def me{c:Nat}(A:az)(a:c<n)(x y:Int)(r s:Nat->Int) :
  det n (aT A c (fun j=>x*r j+y*s j))=x*det n (aT A c r)+y*det n (aT A c s):=by
 induction n generalizing A c r s with
 | zero=>omega
 | succ n ih =>
  simp only[det];rw[<-o9];refine ay fun j b=>?_;rcases dp c j with h|h|h
  .rw[oP _ _ h,oP _ _ h,oP _ _ h,ih _ om];simp only[aT];rw[ah om,ah om,ah om];grind
  .subst h;rw[oR,oR,oR];simp only[aT,aE];grind
  .rw[oQ _ _ h,oQ _ _ h,oQ _ _ h,ih _ om];simp only[aT];rw[ah om,ah om,ah om];grind
def xL{c:Nat}(A:az)(f:c+1<n)(h:∀i,i<n->A i c=A i (c+1)):det n A=0:=by
 induction n generalizing A c with
 | zero=>omega
 | succ n ih =>
  simp only[det];rw[BZ c f]
  .have e:det n (cut A c)=det n (cut A (c+1)):=aZ fun i k b m=>by
    simp only[cut,skip];by_cases a:k<c
    .rw[aj a,aj om]
    .by_cases d:k=c
     .subst d;rw[ah om,aj om];exact(h _ om).symm
     .rw[ah a,ah om]
   rw[e,ET,h 0 om];grind
  .intro j o a d;rcases mB a with g|l
   .rw[ih (cut A j) (c:=c-1) om (fun i b=>by
     simp only[cut,skip];rw[ah om,ah om];rw[(om:c-1+1=c)];exact h _ om)];omega
   .rw[ih (cut A j) (c:=c) om (fun i b=>by
     simp only[cut,skip];rw[aj om,aj om];exact h _ om)];omega
def ik(A:az){i k:Nat}(h:i≠k)(r s:Nat->Int):aT (aT A i r) k s=aT (aT A k s) i r:=by
 funext a b;simp only[aT];grind
def ln(A:az)(c:i<n)(r s:Nat->Int):det n (aT A i (fun j=>r j+s j))=det n (aT A i r)+det n (aT A i s):=by
 have h:=me A c 1 1 r s;rw[aZ (B:=aT A i (fun j=>1*r j+1*s j)) (fun a b _ _=>by simp[aT]),h];omega
def wC(A:az)(b:i+1<n)(r s:Nat->Int):det n (aT (aT A i r) (i+1) s)=- det n (aT (aT A i s) (i+1) r):=by
 have a:∀t:Nat->Int,det n (aT (aT A i t) (i+1) t)=0:=fun t =>
  xL _ b (fun j _=>by simp[aT])
 have c:=a (fun j=>r j+s j);rw[ln _ om,ik _ om,ik A (k:=i+1) (s:=s) om,ln _ om,ln _ om]at c;rw[ik _ om s r,ik _ om r s];have d:=a r;have e:=a s;rw[ik _ om]at d e;omega
def ks(A:az)(d:i<k)(b:k<n)(h:∀j,j<n->A j i=A j k):det n A=0:=by
 induction k generalizing A with
 | zero=>omega
 | succ k ih =>
  by_cases e:i=k
  .subst e;exact xL A b h
  .have c:=wC A b (fun a=>A a k) (fun a=>A a (k+1));have f:aT (aT A k (fun a=>A a k)) (k+1) (fun a=>A a (k+1))=A:=by rw[gJ,gJ]
   rw[f]at c;rw[c,ih (aT (aT A k (fun a=>A a (k+1))) (k+1) (fun a=>A a k)) om om (fun j g=>?_)];· rfl
   have:=h j g;simp only[aT];rw[ah om,ah om,ah om,aj trivial];exact this
def kB(A:az)(b:i<n)(d:k<n)(a:i≠k)(x c:Int):det n (aT A i (fun j=>x*A j i+c*A j k))=x*det n A:=by
 rw[me A b x c (fun j=>A j i) (fun j=>A j k),gJ];have:det n (aT A i (fun j=>A j k))=0:=by
  rcases mB a with h|h
  .exact ks _ h d (fun j _=>by simp only[aT];rw[aj trivial,ah om])
  .exact ks _ h b (fun j _=>by simp only[aT];rw[ah om,aj trivial])
 rw[this];omega
def uH(A:az)(c:i<n)(e:k<n)(b:i≠k):det n (aT (aT A i (fun a=>A a k)) k (fun a=>A a i))=- det n A:=by
 have d:∀t:Nat->Int,det n (aT (aT A i t) k t)=0:=fun t=>by
  rcases mB b with h|h
  .exact ks _ h e (fun j _=>by simp only[aT];grind)
  .exact ks _ h c (fun j _=>by simp only[aT];grind)
 have f:=d (fun j=>A j i+A j k);rw[ln _ e,ik _ b,ik A b (s:=fun j=>A j k),ln _ c,ln _ c]at f;have g:=d (fun j=>A j i);have l:=d (fun j=>A j k);rw[ik _ b]at g l;have m:aT (aT A k (fun j=>A j k)) i (fun j=>A j i)=A:=by rw[gJ,gJ]
 rw[m]at f;rw[ik _ b];omega

def Jk(A:az):det 1 A=A 0 0:=by simp[det,ap,xu]
def uE(A:az):det 2 A=A 0 0*A 1 1-A 1 0*A 0 1:=by simp[det,ap,xu,cut,skip];grind
def ro(n:Nat)(c:Int)(A:az):det n (fun i j=>c*A i j)=c^n*det n A:=by
 induction n generalizing A with
 | zero=>simp[det]
 | succ n ih =>
  simp only[det];rw[<-cF];refine ay fun j _=>?_;rw[show cut (fun i j=>c*A i j) j=fun i k=>c*cut A j i k from rfl,ih,eC];grind
def bar(prev:Int)(A:az):az:=fun i j=>FI A i j/prev
def PT(prev:Int)(A:az):Prop:=∀(l:Nat) (ρ γ:Nat->Nat),prev^l∣det (l+1) (fun i j=>A (ρ i) (γ j))
def lz(ρ:Nat->Nat):Nat->Nat
 | 0=>0
 | i+1=>ρ i+1
def PT.exact{A:az}(h:PT prev A)(i j:Nat):prev*bar prev A i j=FI A i j:=by
 have a:=h 1 (lz fun _=>i) (lz fun _=>j);rw[uE,eC,Int.pow_zero,cL]at a;exact iM a
def KC{A:az}(h:PT prev A)(b:A 0 0≠0)(l:Nat)(ρ γ:Nat->Nat) :
  prev^(l+1)*det (l+1) (fun i j=>bar prev A (ρ i) (γ j))=A 0 0^l*det (l+2) (fun i j=>A (lz ρ i) (lz γ j)):=by
 have a:=MJ (fun i j=>A (lz ρ i) (lz γ j)) (l+1);rw[<-ro,aZ (B:=FI (fun i j=>A (lz ρ i) (lz γ j))) (fun i j _ _=>by
  show prev*bar prev A (ρ i) (γ j)=_;rw[h.exact];rfl)]
 simp only[lz]at a;rw[eC,bU (A 0 0^l),et]at a;exact cH b a

end Go.Proofs.YtdobfmlmenaajaaGreatDoor
