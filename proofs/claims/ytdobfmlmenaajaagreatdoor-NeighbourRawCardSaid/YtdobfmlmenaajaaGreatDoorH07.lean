/-
  Lemmas for NeighbourRaw.
-/
import Derived.Test.YtdobfmlmenaajaaGreatDoorH06
namespace Go.Proofs.YtdobfmlmenaajaaGreatDoor
open Go.RowKit Tryz
open _root_.List renaming replicate→bU,range→gF
open _root_.Option renaming none→ab
open Region renaming ready→kL,wanted→oZ
open Tryz renaming prog→ah
set_option maxHeartbeats 6400000
set_option maxRecDepth 4096
set_option linter.all false
variable{x y z:AV}{K:AV->Prop}{a:Act}{ps:Array (Nat×Operand)}{listed:Array Bool}{ops:Array Oper}{fi:Array Operand}{Q:Exit->Act->World->Prop}{l:List Oper}{N f i n:Nat}{M:Nat->Prop}{o:Oper}{d:Option Nat}{S:St}{O O':Tm}{t:TypeId}{v:Value}{w w':World}{X:eS}
def Rw(P:Program)(f:Nat):Bool:=match P.funcs[f]? with
 | some fn => fn.body.isSome && fn.name != "runtime.NumGoroutine"
 | ab=>false
def Ta:(gF 259).all (fun i=>i==241||(i==242||Rw ah (i+11)))=true:=by kernel_rfl
def ND(h:(11<=f/\f<270)/\f≠252/\f≠253)(args:Array Value)(w:World):(callFunc f args).run ah w=.ok (.enter f args) w:=by
 have a:=aG.1 Ta (f-11) (by simp;omega)
 rw[(om:f-11+11=f)]at a
 have c:(f-11==241)=false:=by simp;omega
 have d:(f-11==242)=false:=by simp;omega
 rw[c,d,Bool.false_or,Bool.false_or]at a;unfold Rw at a
 cases b:ah.funcs[f]? with
 | none=>rw[b]at a;cases a
 | some fn =>
  rw[b]at a;simp only[au,bne_iff_ne,EG]at a;simp[callFunc,b,a.2];intro e;simp[e]at a
def Ob(x y:AV)(K:AV->Prop):Prop:=match x,y with
 | .int k a,.int k' b=>k=k'/\K (.int k (if b > a then b else a))
 | _,_=>False
def IF(h:Ob x y K){w:World}{M:Nat->Prop}{vx vy:Value}(c:bs w M x vx)(d:bs w M y vy)(ts:Array TypeId)(t:TypeId) :
  ∃z v,K z/\bs w M z v/\(Builtin.max_ ts t #[vx,vy]).run ah w=.ok v w:=by
 unfold Ob at h;split at h
 .rename_i k a k' b;obtain⟨rfl,e⟩:=h;simp only[bs]at c d;subst c d;exact⟨_,.int k (if b > a then b else a),e,by simp[bs],by simp[Builtin.max_,Builtin.max2]⟩
 .exact h.elim
def tf(f:Nat)(l r:List AV)(K:AV->Prop):Prop:=match l with
 | []=>K (.fn f r)
 | x::l=>r=[]/\K (.mfn f (x::l))
def uI(O:Tm)(c:Call)(S:St)(K:AV->St->Prop):Prop:=match c.callee with
 | .value f=>(match ev O f with
  | .fn f l=>((11<=f/\f<270)/\f≠252/\f≠253)/\cP f (c.args.toList.map (ev O)++l) S K
  | .mfn f l=>((11<=f/\f<270)/\f≠252/\f≠253)/\cP f (l++c.args.toList.map (ev O)) S K
  | _=>False)
 | .builtin .len=>(match c.args.toList,c.argTypes.toList with
  | [x],[t]=>Ed t (ev O x) (fun z=>K z S)
  | _,_=>False)
 | .builtin .max=>(match c.args.toList with
  | [x,y]=>Ob (ev O x) (ev O y) (fun z=>K z S)
  | _=>False)
 | .builtin .append=>(match c.args.toList,c.argTypes.toList with
  | [s,x],[t,t']=>if t'=3 then ob t (ev O s) (ev O x) S K else fU t t' (ev O s) (ev O x) S K
  | _,_=>False)
 | .builtin .copy=>(match c.args.toList,c.argTypes.toList with
  | [s,x],[t,_]=>sG t (ev O s) (ev O x) S K
  | _,_=>False)
 | _=>False
def rF(t:TypeId)(ps:List (Nat×AV))(K:AV->Prop):Prop:=match t,ps with
 | 50,[]=>K (.big 0)
 | 167,[(0,x),(1,y)]=>eF 2 x/\eF 2 y/\K (.agg [x,y])
 | 183,[(0,x),(1,y)]=>eF 1 x/\eF 1 y/\K (.agg [x,y])
 | 218,[(0,x),(1,y)]=>eF 1 x/\eF 1 y/\K (.agg [x,y])
 | 107,[(0,x)]=>eF 1 x/\K (.agg [x,.int .i64 0])
 | 195,[(0,x),(1,y)]=>eF 2 x/\eF 2 y/\K (.agg [x,y])
 | 238,[(0,x),(1,y),(2,z)]=>eF 1 x/\eF 1 y/\eF 1 z/\K (.agg [x,y,z])
 | 160,[(0,x),(1,y)]=>eF 1 x/\eF 1 y/\K (.agg [x,y,.nil,.nfn])
 | 202,[(0,x),(1,y)]=>eF 1 x/\eF 1 y/\K (.agg [x,y])
 | 197,[(0,x),(1,y),(2,z),(3,.agg [p,q]),(4,.agg [r,s])]=>eF 2 x/\eF 2 y/\eF 2 z/\eF 2 p/\eF 2 q/\eF 2 r/\eF 2 s/\K (.agg [x,y,z,p,q,r,s])
 | _,_=>False
def gn{z:Value}{s b:Nat}(a:mz ah t=some (z,s,b)):∃i,ah.info? t=some i/\i.zero=some z/\i.size=s:=by
 unfold mz at a
 cases c:ah.info? t with
 | none=>rw[c]at a;simp at a
 | some i =>
  rw[c]at a;simp only[dE,cV,ib]at a;obtain⟨z2,d,e,f,g⟩:=a;exact⟨i,rfl,by rw[d,e],f⟩
def z107:mz ah 107=some (.agg #[.slice ab 0 0,.int .i64 0],2,32):=by kernel_rfl
def z183:mz ah 183=some (.agg #[.slice ab 0 0,.slice ab 0 0],2,48):=by kernel_rfl
def z218:mz ah 218=some (.agg #[.slice ab 0 0,.int .i64 0],2,32):=by kernel_rfl
def z167:mz ah 167=some (.agg #[.bool false,.slice ab 0 0,.bool false,.slice ab 0 0],4,64):=by kernel_rfl
def z50:mz ah 50=some (.agg #[.bool false,.slice ab 0 0],2,32):=by kernel_rfl
def z52:mz ah 52=some (.slice ab 0 0,1,24):=by kernel_rfl
def z216:mz ah 216=some (.slice ab 0 0,1,24):=by kernel_rfl
def z22:mz ah 22=some (.slice ab 0 0,1,24):=by kernel_rfl
def z195:mz ah 195=some (.agg #[.bool false,.slice ab 0 0,.bool false,.slice ab 0 0],4,64):=by kernel_rfl
def z197:mz ah 197=some (.agg (bU 7 [.bool false,.slice ab 0 0]).flatten.toArray,14,224):=by kernel_rfl
def z160:mz ah 160=some (.agg #[.slice ab 0 0,.slice ab 0 0,.slice ab 0 0,.nilFunc],4,80):=by kernel_rfl
def z202:mz ah 202=some (.agg #[.int .u64 0,.int .u64 0],2,16):=by kernel_rfl
def z97:mz ah 97=some (.int .u64 0,1,8):=by kernel_rfl
def z59:mz ah 59=some (.slice ab 0 0,1,24):=by kernel_rfl
def z2:mz ah 2=some (.int .i64 0,1,8):=by kernel_rfl
def z238:mz ah 238=some (.agg #[.int .i64 0,.int .i64 0,.int .i64 0],3,24):=by kernel_rfl
def z3:mz ah 3=some (.int .i64 0,1,8):=by kernel_rfl
def gW(h:eF 1 x)(a:bs w M x v):v.cells=#[v]:=by
 rcases Dk h a with⟨_,b,_⟩|⟨e,_⟩
 .exact rR b
 .omega
def gV(h:eF 2 x)(a:bs w M x v):∃p q,v=.agg #[p,q]:=by
 rcases Dk h a with⟨e,_⟩|⟨_,p,q,e,_⟩
 .omega
 .exact⟨p,q,e⟩
def uJ{ps:List (Nat×AV)}(h:rF t ps K){w:World}{M:Nat->Prop}{qs:List (Nat×Value)}(f:qm w M ps qs) :
  ∃z u,K z/\bs w M z u/\(Instr.build t qs.toArray).run ah w=.ok u w:=by
 unfold rF at h;split at h
 .cases qs with
  | cons _ _=>exact f.elim
  | nil =>
   refine⟨_,.agg #[.bool false,.slice ab 0 0],h,by simp only[bs];exact eJ.zero w,?_⟩
   obtain⟨i,Y,Z,_⟩:=o7 (t:=50) (es:=2) (x:=.big 0) (z:=.agg #[.bool false,.slice ab 0 0]) rfl;have hu:=RV;simp[Instr.build,zeroValue,typeInfo,Y,Z,Instr.fill,Value.cells]
 .rename_i x y;obtain⟨sx,sy,g⟩:=h
  match qs,f with
  | [(a,vx),(b,vy)],f =>
   simp only[qm]at f;obtain⟨rfl,rx,rfl,ry,_⟩:=f;obtain⟨D,E,rfl⟩:=gV sx rx;obtain⟨F,G,rfl⟩:=gV sy ry;obtain⟨i,l,m,v⟩:=gn z167;obtain⟨j,n,A,o⟩:=gn z50;refine⟨_,.agg #[D,E,F,G],g,by simp only[bs];exact⟨[.agg #[D,E],.agg #[F,G]],by simp[Value.cells],by simp only[aT];exact⟨rx,ry,trivial⟩⟩,?_⟩
   simp[Instr.build,zeroValue,typeInfo,l,m,bL underlying167,c9 n,o,Instr.fill,Value.cells]
  | [],f=>exact f.elim
  | [_],f=>exact f.2.2.elim
  | _::_::_::_,f=>exact f.2.2.2.2.elim
 .rename_i x y;obtain⟨sx,sy,g⟩:=h
  match qs,f with
  | [(a,vx),(b,vy)],f =>
   simp only[qm]at f;obtain⟨rfl,rx,rfl,ry,_⟩:=f;have cx:=gW sx rx;have cy:=gW sy ry;obtain⟨i,l,m,v⟩:=gn z183;obtain⟨j,n,A,o⟩:=gn z52;refine⟨_,.agg #[vx,vy],g,by simp only[bs];exact⟨[vx,vy],by simp[cx,cy],by simp only[aT];exact⟨rx,ry,trivial⟩⟩,?_⟩
   simp[Instr.build,zeroValue,typeInfo,l,m,bL underlying183,c9 n,o,Instr.fill,cx,cy];simp[Value.cells]
  | [],f=>exact f.elim
  | [_],f=>exact f.2.2.elim
  | _::_::_::_,f=>exact f.2.2.2.2.elim
 .rename_i x y;obtain⟨sx,sy,g⟩:=h
  match qs,f with
  | [(a,vx),(b,vy)],f =>
   simp only[qm]at f;obtain⟨rfl,rx,rfl,ry,_⟩:=f;have cx:=gW sx rx;have cy:=gW sy ry;obtain⟨i,l,m,v⟩:=gn z218;obtain⟨j,n,A,o⟩:=gn z216;obtain⟨k,B,H,C⟩:=gn z3;refine⟨_,.agg #[vx,vy],g,by simp only[bs];exact⟨[vx,vy],by simp[cx,cy],by simp only[aT];exact⟨rx,ry,trivial⟩⟩,?_⟩
   simp[Instr.build,zeroValue,typeInfo,l,m,bL underlying218,c9 n,o,c9 B,C,Instr.fill,cx,cy];simp[Value.cells]
  | [],f=>exact f.elim
  | [_],f=>exact f.2.2.elim
  | _::_::_::_,f=>exact f.2.2.2.2.elim
 .rename_i x;obtain⟨sx,g⟩:=h
  match qs,f with
  | [(a,vx)],f =>
   simp only[qm]at f;obtain⟨rfl,rx,_⟩:=f;have cx:=gW sx rx;obtain⟨i,l,m,v⟩:=gn z107;obtain⟨j,n,A,o⟩:=gn z22;obtain⟨k,B,H,C⟩:=gn z3;refine⟨_,.agg #[vx,.int .i64 0],g,by simp only[bs];exact⟨[vx,.int .i64 0],by simp[cx];rfl,by simp only[aT,bs];exact⟨rx,trivial,trivial⟩⟩,?_⟩
   simp[Instr.build,zeroValue,typeInfo,l,m,bL underlying107,c9 n,o,c9 B,C,Instr.fill,cx];simp[Value.cells]
  | [],f=>exact f.elim
  | _::_::_,f=>exact f.2.2.elim
 .rename_i x y;obtain⟨sx,sy,g⟩:=h
  match qs,f with
  | [(a,vx),(b,vy)],f =>
   simp only[qm]at f;obtain⟨rfl,rx,rfl,ry,_⟩:=f;obtain⟨D,E,rfl⟩:=gV sx rx;obtain⟨F,G,rfl⟩:=gV sy ry;obtain⟨i,l,m,v⟩:=gn z195;obtain⟨j,n,A,o⟩:=gn z50;refine⟨_,.agg #[D,E,F,G],g,by simp only[bs];exact⟨[.agg #[D,E],.agg #[F,G]],by simp[Value.cells],by simp only[aT];exact⟨rx,ry,trivial⟩⟩,?_⟩
   simp[Instr.build,zeroValue,typeInfo,l,m,bL xN,c9 n,o,Instr.fill,Value.cells]
  | [],f=>exact f.elim
  | [_],f=>exact f.2.2.elim
  | _::_::_::_,f=>exact f.2.2.2.2.elim
 .rename_i x y z;obtain⟨sx,sy,sz,g⟩:=h
  match qs,f with
  | [(a,vx),(b,vy),(c,vz)],f =>
   simp only[qm]at f;obtain⟨rfl,rx,rfl,ry,rfl,rz,_⟩:=f;have cx:=gW sx rx;have cy:=gW sy ry;have cz:=gW sz rz;obtain⟨i,l,m,v⟩:=gn z238;obtain⟨j,n,A,o⟩:=gn z2;refine⟨_,.agg #[vx,vy,vz],g,by simp only[bs];exact⟨[vx,vy,vz],by simp[cx,cy,cz],by simp only[aT];exact⟨rx,ry,rz,trivial⟩⟩,?_⟩
   simp[Instr.build,zeroValue,typeInfo,l,m,bL underlying238,c9 n,o,Instr.fill,cx,cy,cz];simp[Value.cells]
  | [],f=>exact f.elim
  | [_],f=>exact f.2.2.elim
  | [_,_],f=>exact f.2.2.2.2.elim
  | _::_::_::_::_,f=>exact f.2.2.2.2.2.2.elim
 .rename_i x y;obtain⟨sx,sy,g⟩:=h
  match qs,f with
  | [(a,vx),(b,vy)],f =>
   simp only[qm]at f;obtain⟨rfl,rx,rfl,ry,_⟩:=f;have cx:=gW sx rx;have cy:=gW sy ry;obtain⟨i,l,m,v⟩:=gn z160;obtain⟨j,n,A,o⟩:=gn z59;obtain⟨k,B,H,C⟩:=gn z52;refine⟨_,.agg #[vx,vy,.slice ab 0 0,.nilFunc],g,by simp only[bs];exact⟨[vx,vy,.slice ab 0 0,.nilFunc],by simp[cx,cy];rfl,by simp only[aT,bs];exact⟨rx,ry,trivial,trivial,trivial⟩⟩,?_⟩
   simp[Instr.build,zeroValue,typeInfo,l,m,bL underlying160,c9 n,o,c9 B,C,Instr.fill,cx,cy];simp[Value.cells]
  | [],f=>exact f.elim
  | [_],f=>exact f.2.2.elim
  | _::_::_::_,f=>exact f.2.2.2.2.elim
 .rename_i x y;obtain⟨sx,sy,g⟩:=h
  match qs,f with
  | [(a,vx),(b,vy)],f =>
   simp only[qm]at f;obtain⟨rfl,rx,rfl,ry,_⟩:=f;have cx:=gW sx rx;have cy:=gW sy ry;obtain⟨i,l,m,v⟩:=gn z202;obtain⟨j,n,A,o⟩:=gn z97;refine⟨_,.agg #[vx,vy],g,by simp only[bs];exact⟨[vx,vy],by simp[cx,cy],by simp only[aT];exact⟨rx,ry,trivial⟩⟩,?_⟩
   simp[Instr.build,zeroValue,typeInfo,l,m,bL underlying202,c9 n,o,Instr.fill,cx,cy];simp[Value.cells]
  | [],f=>exact f.elim
  | [_],f=>exact f.2.2.elim
  | _::_::_::_,f=>exact f.2.2.2.2.elim
 .rename_i x y z p q r s;obtain⟨sx,sy,sz,sp,sq,sr,ss,g⟩:=h
  match qs,f with
  | [(a,vx),(b,vy),(c,vz),(d,vp),(e,vr)],f =>
   simp only[qm]at f;obtain⟨rfl,rx,rfl,ry,rfl,rz,rfl,rp,rfl,rr,_⟩:=f;simp only[bs]at rp rr;obtain⟨ps,rfl,rp⟩:=rp;obtain⟨rs,rfl,rr⟩:=rr
   match ps,rs,rp,rr with
   | [vp,vq],[vr,vs],rp,rr =>
    simp only[aT]at rp rr;obtain⟨rp,rq,_⟩:=rp;obtain⟨rr,rs,_⟩:=rr;obtain⟨I,J,rfl⟩:=gV sx rx;obtain⟨L,N,rfl⟩:=gV sy ry;obtain⟨O,P,rfl⟩:=gV sz rz;obtain⟨Q,R,rfl⟩:=gV sp rp;obtain⟨S,T,rfl⟩:=gV sq rq;obtain⟨U,V,rfl⟩:=gV sr rr;obtain⟨W,X,rfl⟩:=gV ss rs;obtain⟨i,l,m,v⟩:=gn z197;obtain⟨j,n,A,o⟩:=gn z50;obtain⟨k,B,H,C⟩:=gn z195;refine⟨_,.agg #[I,J,L,N,O,P,Q,R,S,T,U,V,W,X],g,by
     simp only[bs];exact⟨[.agg #[I,J],.agg #[L,N],.agg #[O,P],.agg #[Q,R],.agg #[S,T],.agg #[U,V],.agg #[W,X]],by simp[Value.cells],by simp only[aT];exact⟨rx,ry,rz,rp,rq,rr,rs,trivial⟩⟩,?_⟩
    simp[Instr.build,zeroValue,typeInfo,l,m,bL underlying197,c9 n,o,c9 B,C,Instr.fill,Value.cells]
   | [],_,rp,_=>simp[aT]at rp
   | [_],_,rp,_=>simp[aT]at rp
   | _::_::_::_,_,rp,_=>simp[aT]at rp
   | [_,_],[],_,rr=>simp[aT]at rr
   | [_,_],[_],_,rr=>simp[aT]at rr
   | [_,_],_::_::_::_,_,rr=>simp[aT]at rr
  | [],f=>exact f.elim
  | [_],f=>exact f.2.2.elim
  | [_,_],f=>exact f.2.2.2.2.elim
  | [_,_,_],f=>exact f.2.2.2.2.2.2.elim
  | [_,_,_,_],f=>exact f.2.2.2.2.2.2.2.2.elim
  | _::_::_::_::_::_::_,f=>exact f.2.2.2.2.2.2.2.2.2.2.elim
 .exact h.elim
theorem CO{w:World}{M:Nat->Prop}:∀(l:List AV) (vs:List Value),aT w M l vs->∀(i:Nat) (z:AV),l[i]? = some z->∃v,vs[i]? = some v/\bs w M z v
 | [],_,_,i,z,h=>by simp at h
 | x::l,v::vs,a,0,z,h=>by simp only[aT]at a;simp at h;subst h;exact⟨v,sm,a.1⟩
 | x::l,v::vs,a,i+1,z,h=>by simp only[aT]at a;simp at h;obtain⟨u,b,c⟩:=CO l vs a.2 i z h;exact⟨u,by simpa using b,c⟩
 | _::_,[],a,_,_,_=>by simp[aT]at a
def Ee(t:TypeId)(x i:AV)(K:AV->Prop):Prop:=match x,i with
 | .agg l,.int _ n=>(t=195/\∃p q,l=[p,q]/\eF 2 p/\eF 2 q/\(n=0∨n=1)/\K (if n=0 then p else q)) ∨
  ((t=238/\l.length=3∨t=239/\l.length=8)/\(∀z∈l,eF 1 z)/\(0<=n/\n<(l.length:Int))/\K (l.getD n.toNat .any))
 | _,_=>False
theorem NX{w:World}{M:Nat->Prop}:∀(l:List AV) (vs:List Value),(∀z∈l,eF 1 z)->aT w M l vs->vs.flatMap (fun u=>u.cells.toList)=vs
 | [],[],_,_=>rfl
 | x::l,v::vs,b,a=>by
  simp only[aT]at a;simp only[dD,NX l vs (fun z c=>b z (dT _ c)) a.2,gW (b x (eH ..)) a.1];rfl
 | [],_::_,_,a=>by simp[aT]at a
 | _::_,[],_,a=>by simp[aT]at a
def IG(h:Ee t x y K){w:World}{M:Nat->Prop}{vx vy:Value}(g:bs w M x vx)(i:bs w M y vy) :
  ∃z v,K z/\bs w M z v/\(Instr.index t vx vy).run ah w=.ok v w:=by
 unfold Ee at h;split at h
 .rename_i l k n;simp only[bs]at g i;subst i;obtain⟨vs,rfl,a⟩:=g;rcases h with⟨rfl,p,q,rfl,sp,sq,r,d⟩|⟨s,u,⟨m,H⟩,d⟩
  .match vs,a with
   | [vp,vq],a =>
    simp only[aT]at a;obtain⟨rp,rq,_⟩:=a;obtain⟨A,B,rfl⟩:=gV sp rp;obtain⟨C,D,rfl⟩:=gV sq rq;obtain⟨j,b,E,c⟩:=gn z50;rcases r with rfl|rfl
    .refine⟨_,.agg #[A,B],d,by simpa using rp,?_⟩
     simp[Instr.index,asIntOf,bL xN,c9 b,c,part,isAgg,bL RV,Value.cells]
    .refine⟨_,.agg #[C,D],d,by simpa using rq,?_⟩
     simp[Instr.index,asIntOf,bL xN,c9 b,c,part,isAgg,bL RV,Value.cells]
   | [],a=>simp[aT]at a
   | [_],a=>simp[aT]at a
   | _::_::_::_,a=>simp[aT]at a
  .rw[NX l vs u a];have e:n.toNat<l.length:=om
   obtain⟨v,o,F⟩:=CO l vs a n.toNat (l.getD n.toNat .any) (by simp[List.getD,a8 e])
   obtain⟨j,b,E,c⟩:=gn z2;refine⟨_,v,d,F,?_⟩;rcases s with⟨rfl,G⟩|⟨rfl,G⟩
   .have f:n<3:=om
    simp[Instr.index,asIntOf,bL underlying238,c9 b,c,part,isAgg,bL nI,m,f,o]
   .have f:n<8:=om
    simp[Instr.index,asIntOf,bL underlying239,c9 b,c,part,isAgg,bL nI,m,f,o]
 .exact h.elim
def AI(o:Oper)(O:Tm)(S:St)(K:AV->St->Prop):Prop:=match o.op with
 | .move x=>K (ev O x) S
 | .assign x=>K (ev O x) S
 | .pick c x y=>(match ev O c with
  | .bool t=>K (if t then ev O x else ev O y) S
  | _=>False)
 | .alloc t=>mU t S K
 | .box t x=>kq t (ev O x) S K
 | .build t ps=>rF t (ps.toList.map fun p=>(p.1,ev O p.2)) (fun z=>K z S)
 | .buildSlice t n ps=>dG t n (ps.toList.map fun p=>(p.1,ev O p.2)) S K
 | .load t x=>pD t (ev O x) S (fun z=>K z S)
 | .store t x y=>qh t (ev O x) (ev O y) S (fun S'=>K .any S')
 | .nilCheck x=>(match ev O x with
  | .ptr es b i=>K (.ptr es b i) S
  | .pat es y=>K (.pat es y) S
  | _=>False)
 | .binOp op t x y _=>Gk op t (ev O x) (ev O y) (fun z=>K z S)
 | .unOp op _ x=>RI op (ev O x) (fun z=>K z S)
 | .convert s d x=>uH s d (ev O x) (fun z=>K z S)
 | .makeFunc (.func f) fi cs=>tf f (fi.toList.map (ev O)) (cs.toList.map (ev O)) (fun z=>K z S)
 | .makeSlice t x y=>lr t (ev O x) (ev O y) S K
 | .slice t x lo hi mx=>lj t (ev O x) (lo.map (ev O)) (hi.map (ev O)) (mx.map (ev O)) (fun z=>K z S)
 | .fieldAddr t x f=>qj t (ev O x) f (fun z=>K z S)
 | .indexAddr t x i=>qi t (ev O x) (ev O i) (fun z=>K z S)
 | .index t x i=>Ee t (ev O x) (ev O i) (fun z=>K z S)
 | .extract x i=>(match ev O x with
  | .tup l=>(match l[i]? with
   | some z=>K z S
   | ab=>False)
  | _=>False)
 | .call c=>uI O c S K
 | _=>False
def it{next:Act->World->Prop}(b:(execOp a.eval o).run ah w=.ok (.value v) w')(c:next (a.put o.dst v) w'):o.wp ah a w next Q:=by
 unfold Oper.wp;rw[b];exact c
def G2{next:Act->World->Prop}(b:(execOp a.eval o).run ah w=.ok .skip w')(c:next (a.put o.dst undef) w'):o.wp ah a w next Q:=by
 unfold Oper.wp;rw[b];exact c
theorem rH{O:Tm}{S:St}{N:Nat}{a:Act}{w:World}(h:RT O S N a w):∀ps:List (Nat×Operand),qm w S.dom (ps.map fun p=>(p.1,ev O p.2)) (ps.map fun p=>(p.1,a.eval p.2))
 | []=>by simp[qm]
 | p::ps=>by simp only[cU,qm];exact⟨trivial,h.ev p.2,rH h ps⟩
theorem pF{O:Tm}{S:St}{N:Nat}{a:Act}{w:World}(h:RT O S N a w):∀ps:List Operand,aT w S.dom (ps.map (ev O)) (ps.map a.eval)
 | []=>by simp[aT]
 | p::ps=>by simp only[cU,aT];exact⟨h.ev p,pF h ps⟩
theorem oH{w:World}{M:Nat->Prop}:∀(l l':List AV) (vs vs':List Value),aT w M l vs->aT w M l' vs'->aT w M (l++l') (vs++vs')
 | [],_,[],_,_,h=>by simpa using h
 | x::l,l',v::vs,vs',h,h'=>by simp only[lO,aT]at h ⊢;exact⟨h.1,oH l l' vs vs' h.2 h'⟩
 | [],_,_::_,_,h,_=>by simp[aT]at h
 | _::_,_,[],_,h,_=>by simp[aT]at h
theorem uP{w:World}{M:Nat->Prop}:∀(l:List AV) (vs:List Value),aT w M l vs->∀(i:Nat) (z:AV),l[i]? = some z->∃v,vs[i]? = some v/\bs w M z v
 | [],_,_,i,z,h=>by simp at h
 | x::l,v::vs,a,0,z,h=>by simp only[aT]at a;simp at h;subst h;exact⟨v,sm,a.1⟩
 | x::l,v::vs,a,i+1,z,h=>by simp only[aT]at a;simp at h;obtain⟨u,b,c⟩:=uP l vs a.2 i z h;exact⟨u,by simpa using b,c⟩
 | _::_,[],a,_,_,_=>by simp[aT]at a
def pE(h:RT O S N a w)(x:Option Operand):th w S.dom (x.map (ev O)) (x.map a.eval):=by
 cases x with
 | none=>simp[th]
 | some x=>simp only[du,th];exact h.ev x
def Cs(a:Act)(ps:Array (Nat×Operand)):(ps.map fun(x:Nat×Operand)=>(x.1,a.eval x.2))=(ps.toList.map fun p=>(p.1,a.eval p.2)).toArray:=by apply gP;simp
def Ak(b:o.op=.build t ps){w:World}:(execOp a.eval o).run ah w=((Instr.build t (ps.toList.map fun p=>(p.1,a.eval p.2)).toArray).run ah w).andThen fun v w'=>.ok (.value v) w':=by
 rw[<-Cs];unfold execOp;rw[b];simp
def qx(b:o.op=.buildSlice t n ps){w:World}:(execOp a.eval o).run ah w=((Instr.buildSlice t n (ps.toList.map fun p=>(p.1,a.eval p.2)).toArray).run ah w).andThen fun v w'=>.ok (.value v) w':=by
 rw[<-Cs];unfold execOp;rw[b];simp
def Next_(K:AV->St->Prop)(S:St)(a:Act)(d:Option Nat)(w:World)(next:Act->World->Prop):Prop:=∀z v w' S',K z S'->bs w' S'.dom z v->eM w' S'->dz S.dom S'.dom w w'->next (a.put d v) w'
def uE{cs:Array Operand}(h:tf f (fi.toList.map (ev O)) (cs.toList.map (ev O)) K){N:Nat}{a:Act}{w:World}(d:RT O S N a w):∃z,K z/\bs w S.dom z (.func (.func f) (fi.map a.eval) (cs.map a.eval)):=by
 unfold tf at h;split at h
 .rename_i b;have b:fi=#[]:=by apply gP;simpa using b
  refine⟨_,h,?_⟩;simp only[bs];exact⟨cs.toList.map a.eval,by rw[b];congr 1<;>apply gP<;>simp,pF d _⟩
 .rename_i x l b;have c:cs=#[]:=by apply gP;simpa using h.1
  refine⟨_,h.2,?_⟩;simp only[bs];exact⟨fi.toList.map a.eval,by rw[c];congr 1<;>apply gP<;>simp,by rw[<-b];exact pF d _⟩
def pC{K:AV->St->Prop}(h:AI o O S K){N:Nat}{a:Act}{w:World}(j:RT O S N a w){next:Act->World->Prop}{Q:Exit->Act->World->Prop}
  (C:Next_ K S a o.dst w next):o.wp ah a w next Q:=by
 have pure_:∀(s:Sem Value),(execOp a.eval o=do let x <-s;pure (.value x))->(∃z u,K z S/\bs w S.dom z u/\s.run ah w=.ok u w)->o.wp ah a w next Q:=by
  intro s T ⟨z,u,q,A,B⟩;exact it (by rw[T];simp[B]) (C z u w S q A j.st (dz.refl _ _))
 have goes_:∀(s:Sem Value),(execOp a.eval o=do let x <-s;pure (.value x))->Er s w S K->o.wp ah a w next Q:=by
  intro s T ⟨z,u,w',S',q,A,B,J,U⟩;exact it (by rw[T];simp[U]) (C z u w' S' q A B J)
 unfold AI at h;split at h
 .rename_i x k;exact it (v:=a.eval x) (by simp[execOp,k]) (C _ _ w S h (j.ev x) j.st (dz.refl _ _))
 .rename_i x k;exact it (v:=a.eval x) (by simp[execOp,k]) (C _ _ w S h (j.ev x) j.st (dz.refl _ _))
 .rename_i c x y k;have E:=j.ev c
  cases V:ev O c<;>rw[V]at h E<;>try exact h.elim
  rename_i t;simp only[bs]at E;refine it (v:=if t then a.eval x else a.eval y) (by simp[execOp,k,E,asBool]) (C _ _ w S h ?_ j.st (dz.refl _ _))
  cases t
  .exact j.ev y
  .exact j.ev x
 .rename_i t k;exact goes_ (Instr.alloc t true (.tuple #[])) (by simp[execOp,k]) (Ei h j.st)
 .rename_i t x k;exact goes_ (Instr.box t (a.eval x)) (by simp[execOp,k]) (II h j.st (j.ev x))
 .rename_i t ps k;obtain⟨z,u,q,A,B⟩:=uJ h (rH j ps.toList);refine it (v:=u) ?_ (C z u w S q A j.st (dz.refl _ _));rw[Ak k,B];rfl
 .rename_i t n ps k;obtain⟨z,u,w',S',q,A,B,J,U⟩:=uK h j.st (rH j ps.toList);refine it (v:=u) ?_ (C z u w' S' q A B J);rw[qx k,U];rfl
 .rename_i t x k;exact pure_ (Instr.loadAt t (a.eval x)) (by simp[execOp,k]) (rE h j.st (j.ev x))
 .rename_i t x y k;obtain⟨w',S',q,A,B,J⟩:=Ec h j.st (j.ev x) (j.ev y);exact G2 (by simp[execOp,k,J]) (C _ _ w' S' q (by simp[bs]) A B)
 .rename_i x k;have m:=j.ev x
  cases F:ev O x<;>rw[F]at h m<;>try exact h.elim
  .have L:=m;simp only[bs]at m;exact it (v:=a.eval x) (by simp[execOp,k,m]) (C _ _ w S h L j.st (dz.refl _ _))
  .have L:=m;simp only[bs]at m;obtain⟨b,off,u,m,_⟩:=m;exact it (v:=a.eval x) (by simp[execOp,k,m]) (C _ _ w S h L j.st (dz.refl _ _))
 .rename_i op t x y _ k;have:=AL (ty:=t) h (j.ev x) (j.ev y) x y;exact pure_ (do eqGuard op t x y (a.eval x) (a.eval y);binOp op t (a.eval x) (a.eval y)) (by simp[execOp,k]) this
 .rename_i op t x k;exact pure_ (Op.unary op (a.eval x)) (by simp[execOp,k]) (CL h (j.ev x))
 .rename_i s d x k;exact pure_ (convert s d (a.eval x)) (by simp[execOp,k]) (xM h (j.ev x))
 .rename_i f fi cs k;obtain⟨z,q,A⟩:=uE h j;exact it (v:=.func (.func f) (fi.map a.eval) (cs.map a.eval)) (by simp[execOp,k,Instr.makeFunc]) (C _ _ w S q A j.st (dz.refl _ _))
 .rename_i t x y k;exact goes_ (Instr.makeSlice t (a.eval x) (a.eval y)) (by simp[execOp,k]) (Gi h j.st (j.ev x) (j.ev y))
 .rename_i t x lo Y mx k;exact pure_ (Instr.sliceAt t (a.eval x) (lo.map a.eval) (Y.map a.eval) (mx.map a.eval)) (by simp[execOp,k]) (uD h (j.ev x) (pE j lo) (pE j Y) (pE j mx))
 .rename_i t x f k;exact pure_ (Instr.fieldAt t (a.eval x) f) (by simp[execOp,k]) (uG h (j.ev x))
 .rename_i t x i k;exact pure_ (Instr.indexAt t (a.eval x) (a.eval i)) (by simp[execOp,k]) (uF h (j.ev x) (j.ev i))
 .rename_i t x i k;exact pure_ (Instr.index t (a.eval x) (a.eval i)) (by simp[execOp,k]) (IG h (j.ev x) (j.ev i))
 .rename_i x i k;have m:=j.ev x
  cases F:ev O x<;>rw[F]at h m<;>try exact h.elim
  rename_i l;simp only at h
  cases W:l[i]? with
  | none=>rw[W]at h;exact h.elim
  | some z =>
   rw[W]at h;simp only[bs]at m;obtain⟨vs,m,G⟩:=m;obtain⟨v,hv,hz⟩:=uP l vs G i z W;exact it (v:=v) (by simp[execOp,k,Instr.extract,m,hv]) (C _ _ w S h hz j.st (dz.refl _ _))
 .rename_i c k;unfold uI at h;split at h
  .rename_i f Z;have H:=j.ev f
   cases F:ev O f<;>rw[F]at h H<;>try exact h.elim
   .rename_i g l;simp only[bs]at H;obtain⟨vs,M,G⟩:=H;obtain⟨X,P⟩:=h;have I:(execOp a.eval o).run ah w=.ok (.enter g (c.args.map a.eval++vs.toArray)) w:=by
     simp[execOp,k,resolve,Z,Deferred.ofValue,M,invoke,ND X]
    unfold Oper.wp;rw[I];have hargs:(c.args.map a.eval++vs.toArray)=(c.args.toList.map a.eval++vs).toArray:=by apply gP;simp
    rw[hargs];refine(P w _ j.st (oH _ _ _ _ (pF j _) G)).mono ?_;rintro e w' ⟨v,r,S',rfl,q,A,B,J⟩;exact C r v w' S' q A B J
   .rename_i g l;simp only[bs]at H;obtain⟨vs,M,G⟩:=H;obtain⟨X,P⟩:=h;have I:(execOp a.eval o).run ah w=.ok (.enter g (vs.toArray++c.args.map a.eval)) w:=by
     simp[execOp,k,resolve,Z,Deferred.ofValue,M,invoke,ND X]
    unfold Oper.wp;rw[I];have hargs:(vs.toArray++c.args.map a.eval)=(vs++c.args.toList.map a.eval).toArray:=by apply gP;simp
    rw[hargs];refine(P w _ j.st (oH _ _ _ _ G (pF j _))).mono ?_;rintro e w' ⟨v,r,S',rfl,q,A,B,J⟩;exact C r v w' S' q A B J
  .rename_i E;split at h
   .rename_i x t m R;have p:c.args=#[x]:=by apply gP;simpa using m
    have D:c.argTypes=#[t]:=by apply gP;simpa using R
    exact pure_ (Builtin.len_ #[t] o.type #[a.eval x]) (by simp[execOp,k,resolve,E,invoke,builtin,p,D]) (AJ h (j.ev x))
   .exact h.elim
  .rename_i E;split at h
   .rename_i x y m;have p:c.args=#[x,y]:=by apply gP;simpa using m
    exact pure_ (Builtin.max_ c.argTypes o.type #[a.eval x,a.eval y]) (by simp[execOp,k,resolve,E,invoke,builtin,p]) (IF h (j.ev x) (j.ev y) _ _)
   .exact h.elim
  .rename_i E;split at h
   .rename_i s x t t' m R;have p:c.args=#[s,x]:=by apply gP;simpa using m
    have D:c.argTypes=#[t,t']:=by apply gP;simpa using R
    split at h
    .rename_i B;subst B;exact goes_ (Builtin.append_ #[t,3] o.type #[a.eval s,a.eval x]) (by simp[execOp,k,resolve,E,invoke,builtin,p,D]) (AM h j.st (j.ev s) (j.ev x))
    .exact goes_ (Builtin.append_ #[t,t'] o.type #[a.eval s,a.eval x]) (by simp[execOp,k,resolve,E,invoke,builtin,p,D]) (BD h j.st (j.ev s) (j.ev x))
   .exact h.elim
  .rename_i E;split at h
   .rename_i s x t t' m R;have p:c.args=#[s,x]:=by apply gP;simpa using m
    have D:c.argTypes=#[t,t']:=by apply gP;simpa using R
    exact goes_ (Builtin.copy_ #[t,t'] o.type #[a.eval s,a.eval x]) (by simp[execOp,k,resolve,E,invoke,builtin,p,D]) (Gj h j.st (j.ev s) (j.ev x))
   .exact h.elim
  .exact h.elim
 .exact h.elim

def EE(ops:Array Oper)(O:Tm)(j:Nat):AV:=match (ops[j]?).bind (·.dst)with
 | some d=>O d
 | ab=>.any
def Gc(ops:Array Oper):List Oper->Tm->St->(Tm->St->Prop)->Prop
 | [],O,S,K=>K O S
 | o::l,O,S,K=>(match o.guard with
  | ab=>AI o O S (fun z S'=>Gc ops l (O.put o.dst z) S' K)
  | some (j,want)=>(match EE ops O j with
   | .bool b=>(b=want->AI o O S (fun z S'=>Gc ops l (O.put o.dst z) S' K))/\(b=!want->Gc ops l (O.put o.dst .any) S K)
   | _=>False))
def xE(N:Nat)(l:List Oper):Bool:=l.all fun o=>match o.dst with
 | some d=>decide (d<N)
 | ab=>true
def Il(h:xE N (o::l)=true):(∀k,o.dst=some k->k<N)/\xE N l=true:=by
 simp only[xE,List.all_cons,au]at h;refine⟨fun k b=>?_,h.2⟩;have a:=h.1;rw[b]at a;simpa using a
def BT(g:RT O S N a w){j:Nat}{b:Bool}(h:EE ops O j=.bool b):yielded ops a.tmps j=some b:=by
 unfold EE at h
 cases e:(ops[j]?).bind (·.dst)with
 | none=>rw[e]at h;cases h
 | some d =>
  rw[e]at h;have c:=g.tm d;simp only at h;rw[h]at c;simp only[bs]at c;unfold yielded;rw[e];simp only[dE]
  cases f:a.tmps[d]? with
  | none=>simp[cO,f,undef]at c
  | some v =>
   have:v=.bool b:=by simpa [cO,f]using c
   subst this;rfl
theorem wB{ops:Array Oper}{N:Nat}{Q:Exit->Act->World->Prop}{K:Tm->St->Prop}:∀(l:List Oper) {O:Tm} {S:St} {a:Act} {w:World},Gc ops l O S K->RT O S N a w->xE N l=true ->
  (∀O' S' a' w',K O' S'->RT O' S' N a' w'->dz S.dom S'.dom w w'->Q .normal a' w')->wpList ah ops Q l a w
 | [],O,S,a,w,h,d,_,i=>i O S a w h d (dz.refl _ _)
 | o::l,O,S,a,w,h,d,r,i=>by
  obtain⟨e,f⟩:=Il r;have run:AI o O S (fun z S'=>Gc ops l (O.put o.dst z) S' K)->o.wp ah a w (wpList ah ops Q l) Q:=fun s =>
   pC s d (fun z v w' S' t u x n=>wB l t (d.put n x e u) f (fun O' S'' a' w'' y A B=>i O' S'' a' w'' y A (n.trans B)))
  unfold Gc at h;unfold wpList
  cases c:o.guard with
  | none =>
   rw[c]at h;rw[ai (by simp[oZ,c])]
   exact bF (run h)
  | some p =>
   obtain⟨j,want⟩:=p;rw[c]at h;simp only at h
   cases q:EE ops O j<;>rw[q]at h<;>try exact h.elim
   rename_i b;have g:=BT d q;by_cases k:b=want
   .rw[ai (by simp[oZ,c,g,k])]
    exact bF (run (h.1 k))
   .rw[af (by simp[oZ,c,g,k])]
    have m:b=!want:=by cases b<;>cases want<;>simp_all
    exact wB l (h.2 m) (d.put (dz.refl _ _) d.st e (by simp[bs])) f i
def wE{K:AV->St->Prop}(a:∀x,x∈o.op.operands.toList->ev O x=ev O' x)(h:AI o O S K):AI o O' S K:=by
 have j:∀l:List Operand,(∀x∈l,ev O x=ev O' x)->l.map (ev O)=l.map (ev O'):=fun l v=>lW v;unfold AI at h ⊢;split at h
 .rename_i x b;rw[b]at a;simp only[Op.operands]at a;rw[<-a x sm];exact h
 .rename_i x b;rw[b]at a;simp only[Op.operands]at a;rw[<-a x sm];exact h
 .rename_i c x y b;rw[b]at a;simp only[Op.operands]at a;rw[<-a c sm,<-a x sm,<-a y sm];exact h
 .rename_i t b;exact h
 .rename_i t x b;rw[b]at a;simp only[Op.operands]at a;rw[<-a x sm];exact h
 .rename_i t ps b;rw[b]at a;simp only[Op.operands]at a;have:(ps.toList.map fun p=>(p.1,ev O p.2))=ps.toList.map fun p=>(p.1,ev O' p.2):=lW fun p q=>by rw[a p.2 (by simp;exact⟨p.1,by simpa using q⟩)]
  rw[<-this];exact h
 .rename_i t n ps b;rw[b]at a;simp only[Op.operands]at a;have:(ps.toList.map fun p=>(p.1,ev O p.2))=ps.toList.map fun p=>(p.1,ev O' p.2):=lW fun p q=>by rw[a p.2 (by simp;exact⟨p.1,by simpa using q⟩)]
  rw[<-this];exact h
 .rename_i t x b;rw[b]at a;simp only[Op.operands]at a;rw[<-a x sm];exact h
 .rename_i t x y b;rw[b]at a;simp only[Op.operands]at a;rw[<-a x sm,<-a y sm];exact h
 .rename_i x b;rw[b]at a;simp only[Op.operands]at a;rw[<-a x sm];exact h
 .rename_i op t x y _ b;rw[b]at a;simp only[Op.operands]at a;rw[<-a x sm,<-a y sm];exact h
 .rename_i op t x b;rw[b]at a;simp only[Op.operands]at a;rw[<-a x sm];exact h
 .rename_i s d x b;rw[b]at a;simp only[Op.operands]at a;rw[<-a x sm];exact h
 .rename_i f fi cs b;rw[b]at a;simp only[Op.operands]at a;rw[<-j cs.toList (fun x e=>a x (by simp;exact bH (by simpa using e))),<-j fi.toList (fun x e=>a x (by simp;exact bF (by simpa using e)))];exact h
 .rename_i t x y b;rw[b]at a;simp only[Op.operands]at a;rw[<-a x sm,<-a y sm];exact h
 .rename_i t x lo w mx b;rw[b]at a;simp only[Op.operands]at a;have k:∀y:Option Operand,(∀z,y=some z->ev O z=ev O' z)->y.map (ev O)=y.map (ev O'):=fun y A=>by cases y<;>simp[A]
  rw[<-a x sm,<-k lo (fun z m=>a z (by subst m;simp)),<-k w (fun z m=>a z (by subst m;simp)),<-k mx (fun z m=>a z (by subst m;simp))];exact h
 .rename_i t x f b;rw[b]at a;simp only[Op.operands]at a;rw[<-a x sm];exact h
 .rename_i t x i b;rw[b]at a;simp only[Op.operands]at a;rw[<-a x sm,<-a i sm];exact h
 .rename_i t x i b;rw[b]at a;simp only[Op.operands]at a;rw[<-a x sm,<-a i sm];exact h
 .rename_i x i b;rw[b]at a;simp only[Op.operands]at a;rw[<-a x sm];exact h
 .rename_i c b;rw[b]at a;simp only[Op.operands,Call.operands]at a;have g:∀x∈c.args.toList,ev O x=ev O' x:=fun x e=>a x (by simp;exact bH (by simpa using e))
  unfold uI at h ⊢;split at h
  .rename_i f B;rw[B]at a;simp only at a;rw[<-a f sm,<-j _ g];exact h
  .rename_i r;split at h
   .rename_i x t e u;rw[<-g x (by rw[e];simp)];exact h
   .exact h.elim
  .rename_i r;split at h
   .rename_i x y e;rw[<-g x (by rw[e];simp),<-g y (by rw[e];simp)];exact h
   .exact h.elim
  .rename_i r;split at h
   .rename_i s x t t' e u;rw[<-g x (by rw[e];simp),<-g s (by rw[e];simp)];exact h
   .exact h.elim
  .rename_i r;split at h
   .rename_i s x t t' e u;rw[<-g x (by rw[e];simp),<-g s (by rw[e];simp)];exact h
   .exact h.elim
  .exact h.elim
 .exact h.elim

def mT:TypeId->Option eS
 | 50=>some ⟨50,2,1,fun _=>.big 0⟩
 | 52=>some ⟨52,1,1,fun _=>.nil⟩
 | 167=>some ⟨167,2,2,fun _=>.big 0⟩
 | 218=>some ⟨218,1,2,fun j=>if j=0 then .nil else .int .i64 0⟩
 | _=>ab
def LD(h:mT t=some X):∃zc:Array Value,X.ty=t/\(∀w,(Instr.alloc t true (.tuple #[])).run ah w=.ok (.pointer (some ⟨w.heap.size,0,ab⟩)) (w.alloc (.cells zc t))) /\
  X.es*X.n<=zc.size/\(∀w M j,j<X.n->∃u,reads zc (X.es*j) X.es u/\bs w M (X.g j) u)/\∀(k:Nat) (y:Value),zc[k]? = some y->lU y:=by
 have key:∀(z':Value) (s b:Nat),mz ah t=some (z',s,b)->∃i,ah.info? t=some i/\i.zero=some z':=by
  intro z' s b e;unfold mz at e
  cases f:ah.info? t with
  | none=>rw[f]at e;simp at e
  | some i =>
   rw[f]at e;simp only[dE,cV,ib]at e;obtain⟨z2,m,o,G,H⟩:=e;exact⟨i,rfl,by rw[m,o]⟩
 have fin:∀(l:List AV) (vs:List Value) (z:Value) (s b:Nat),mz ah t=some (z,s,b)->z.cells=(vs.flatMap (fun u=>u.cells.toList)).toArray->(∀w M,aT w M l vs)->(∀y∈l,eF X.es y)->X.ty=t->X.n=l.length->(∀j,j<l.length->X.g j=l.getD j .any) ->
   ∃zc:Array Value,X.ty=t/\(∀w,(Instr.alloc t true (.tuple #[])).run ah w=.ok (.pointer (some ⟨w.heap.size,0,ab⟩)) (w.alloc (.cells zc t))) /\
   X.es*X.n<=zc.size/\(∀w M j,j<X.n->∃u,reads zc (X.es*j) X.es u/\bs w M (X.g j) u)/\∀(k:Nat) (y:Value),zc[k]? = some y->lU y:=by
  intro l vs z s b A p r d B x C;obtain⟨i,f,v⟩:=key z s b A;refine⟨z.cells,B,fun w=>Ci f v w,?_,fun w M j a=>?_,fun k y c=>?_⟩
  .obtain⟨_,D,_,_⟩:=iM l vs (r default (fun _=>False)) d;rw[p,co,D,x];exact ae _
  .obtain⟨_,_,_,E⟩:=iM l vs (r w M) d;rw[x]at a;obtain⟨u,m,o⟩:=E j a;refine⟨u,?_,by rw[C j a];exact m⟩
   have:=o z.cells 0 (fun q _=>by rw[p];simp)
   simpa using this
  .obtain⟨_,_,F,_⟩:=iM l vs (r default (fun _=>False)) d;rw[p,fC]at c;exact(F y (fL c)).2
 have zb:∀w M,bs w M (.big 0) (.agg #[.bool false,.slice ab 0 0]):=fun w M=>by simp only[bs];exact eJ.zero w
 unfold mT at h;split at h
 .cases h
  exact fin [.big 0] [.agg #[.bool false,.slice ab 0 0]] (.agg #[.bool false,.slice ab 0 0]) 2 32 kr rfl (fun w M=>by simp only[aT];exact⟨zb w M,trivial⟩) (fun y c=>by simp at c;subst c;simp[eF]) rfl rfl (fun j a=>by simp at a;subst a;rfl)
 .cases h
  exact fin [.nil] [.slice ab 0 0] (.slice ab 0 0) 1 24 kr rfl (fun w M=>by simp[aT,bs]) (fun y c=>by simp at c;subst c;simp[eF]) rfl rfl (fun j a=>by simp at a;subst a;rfl)
 .cases h
  exact fin (bU 2 (.big 0)) (bU 2 (.agg #[.bool false,.slice ab 0 0])) (.agg #[.bool false,.slice ab 0 0,.bool false,.slice ab 0 0]) 4 64 kr rfl (fun w M=>kt (zb w M) 2) (fun y c=>by rw[gH c];simp[eF]) rfl rfl
   (fun j a=>(Ah (by rw[lc]at a;exact a) _ _).symm)
 .cases h
  exact fin [.nil,.int .i64 0] [.slice ab 0 0,.int .i64 0] (.agg #[.slice ab 0 0,.int .i64 0]) 2 32 kr rfl (fun w M=>by simp[aT,bs]) (fun y c=>by simp at c;rcases c with rfl|rfl<;>simp[eF]) rfl rfl
   (fun j a=>by match j with
    | 0=>rfl
    | 1=>rfl
    | j+2=>exact absurd a (by simp only[cq,fR];omega))
 .cases h
mutual
def pI:AV->Bool
 | .int ..=>true
 | .bool _=>true
 | .big _=>true
 | .nil=>true
 | .sl ..=>true
 | .ptr ..=>true
 | .mag _=>true
 | .fp ..=>true
 | .bset _=>true
 | .any=>true
 | .nfn=>true
 | .mfn _ l=>Br l
 | .tup l=>Br l
 | .agg l=>Br l
 | .fn _ l=>Br l
 | .lst ..=>false
 | .pat ..=>false
def Br:List AV->Bool
 | []=>true
 | x::l=>pI x&&Br l
end
mutual
theorem tV{w:World}{M M':Nat->Prop}:∀{x:AV} {v:Value},pI x=true->bs w M x v->bs w M' x v
 | .int ..,v,_,a=>by simpa [bs]using a
 | .bool _,v,_,a=>by simpa [bs]using a
 | .big _,v,_,a=>by simpa [bs]using a
 | .nil,v,_,a=>by simpa [bs]using a
 | .sl ..,v,_,a=>by simpa [bs]using a
 | .ptr ..,v,_,a=>by simpa [bs]using a
 | .mag _,v,_,a=>by simpa [bs]using a
 | .fp ..,v,_,a=>by simpa [bs]using a
 | .bset _,v,_,a=>by simpa [bs]using a
 | .any,v,_,a=>by simp[bs]
 | .nfn,v,_,a=>by simpa [bs]using a
 | .mfn f l,v,h,a=>by
  simp only[pI]at h;simp only[bs]at a ⊢;obtain⟨vs,b,c⟩:=a;exact⟨vs,b,rk h c⟩
 | .tup l,v,h,a=>by
  simp only[pI]at h;simp only[bs]at a ⊢;obtain⟨vs,b,c⟩:=a;exact⟨vs,b,rk h c⟩
 | .agg l,v,h,a=>by
  simp only[pI]at h;simp only[bs]at a ⊢;obtain⟨vs,b,c⟩:=a;exact⟨vs,b,rk h c⟩
 | .fn f l,v,h,a=>by
  simp only[pI]at h;simp only[bs]at a ⊢;obtain⟨vs,b,c⟩:=a;exact⟨vs,b,rk h c⟩
 | .lst ..,v,h,_=>by simp[pI]at h
 | .pat ..,v,h,_=>by simp[pI]at h
theorem rk{w:World}{M M':Nat->Prop}:∀{l:List AV} {vs:List Value},Br l=true->aT w M l vs->aT w M' l vs
 | [],[],_,_=>by simp[aT]
 | x::l,v::vs,h,a=>by
  simp only[Br,au]at h;simp only[aT]at a ⊢;exact⟨tV h.1 a.1,rk h.2 a.2⟩
 | [],_::_,_,a=>by simp[aT]at a
 | _::_,[],_,a=>by simp[aT]at a
end
def BJ:Nat->Prop:=fun _=>False
def Fr:Op->Bool
 | .move _=>true
 | .assign _=>true
 | .pick ..=>true
 | .build ..=>true
 | .load ..=>true
 | .nilCheck _=>true
 | .binOp ..=>true
 | .unOp ..=>true
 | .convert ..=>true
 | .makeFunc ..=>true
 | .slice ..=>true
 | .fieldAddr ..=>true
 | .indexAddr ..=>true
 | .extract ..=>true
 | .call { callee:=.builtin .len,.. }=>true
 | _=>false
def uQ(f:Nat)(args:List AV)(S:St)(z:AV):Prop :=
 ∀(w:World) (vs:List Value),eM w S->aT w S.dom args vs->Calls ah f vs.toArray w (fun e w'=>∃v,e=.returned v/\bs w' S.dom z v/\dz BJ BJ w w')
def BM(o:Oper)(O:Tm)(S:St)(z:AV):Prop:=(Fr o.op=true/\AI o O S (fun z' S'=>z'=z/\S'=S)) ∨
 (match o.op with
 | .call c=>(match c.callee with
  | .value f=>(match ev O f with
   | .fn f l=>((11<=f/\f<270)/\f≠252/\f≠253)/\uQ f (c.args.toList.map (ev O)++l) S z
   | _=>False)
  | _=>False)
 | .buildSlice t n ps=>eV t n (ps.toList.map fun p=>(p.1,ev O p.2)) z
 | _=>False)
def Oa(j:Fr o.op=true){O:Tm}{S:St}{K:AV->St->Prop}(h:AI o O S K){N:Nat}{a:Act}{w:World}(g:RT O S N a w) :
  ∃z v,K z S/\bs w S.dom z v/\(execOp a.eval o).run ah w=.ok (.value v) w:=by
 have pure_:∀(s:Sem Value),(execOp a.eval o=do let x <-s;pure (.value x))->(∃z u,K z S/\bs w S.dom z u/\s.run ah w=.ok u w)->∃z v,K z S/\bs w S.dom z v/\(execOp a.eval o).run ah w=.ok (.value v) w:=by
  intro s J ⟨z,u,r,A,C⟩;exact⟨z,u,r,A,by rw[J];simp[C]⟩
 unfold AI at h;split at h
 .rename_i x e;exact⟨_,_,h,g.ev x,by simp[execOp,e]⟩
 .rename_i x e;exact⟨_,_,h,g.ev x,by simp[execOp,e]⟩
 .rename_i c x y e;have B:=g.ev c
  cases D:ev O c<;>rw[D]at h B<;>try exact h.elim
  rename_i t;simp only[bs]at B;refine⟨_,if t then a.eval x else a.eval y,h,?_,by simp[execOp,e,B,asBool]⟩
  cases t
  .exact g.ev y
  .exact g.ev x
 .rename_i t e;rw[e]at j;simp[Fr]at j
 .rename_i t x e;rw[e]at j;simp[Fr]at j
 .rename_i t ps e;obtain⟨z,u,r,A,C⟩:=uJ h (rH g ps.toList);exact⟨z,u,r,A,by rw[Ak e,C];rfl⟩
 .rename_i t n ps e;rw[e]at j;simp[Fr]at j
 .rename_i t x e;exact pure_ (Instr.loadAt t (a.eval x)) (by simp[execOp,e]) (rE h g.st (g.ev x))
 .rename_i t x y e;rw[e]at j;simp[Fr]at j
 .rename_i x e;have k:=g.ev x
  cases p:ev O x<;>rw[p]at h k<;>try exact h.elim
  .have q:=k;simp only[bs]at k;exact⟨_,a.eval x,h,q,by simp[execOp,e,k]⟩
  .have q:=k;simp only[bs]at k;obtain⟨b,off,u,k,_⟩:=k;exact⟨_,a.eval x,h,q,by simp[execOp,e,k]⟩
 .rename_i op t x y _ e;have:=AL (ty:=t) h (g.ev x) (g.ev y) x y;exact pure_ (do eqGuard op t x y (a.eval x) (a.eval y);binOp op t (a.eval x) (a.eval y)) (by simp[execOp,e]) this
 .rename_i op t x e;exact pure_ (Op.unary op (a.eval x)) (by simp[execOp,e]) (CL h (g.ev x))
 .rename_i s d x e;exact pure_ (convert s d (a.eval x)) (by simp[execOp,e]) (xM h (g.ev x))
 .rename_i f fi cs e;obtain⟨z,r,A⟩:=uE h g;exact⟨_,.func (.func f) (fi.map a.eval) (cs.map a.eval),r,A,by simp[execOp,e,Instr.makeFunc]⟩
 .rename_i t x y e;rw[e]at j;simp[Fr]at j
 .rename_i t x lo I mx e;exact pure_ (Instr.sliceAt t (a.eval x) (lo.map a.eval) (I.map a.eval) (mx.map a.eval)) (by simp[execOp,e]) (uD h (g.ev x) (pE g lo) (pE g I) (pE g mx))
 .rename_i t x f e;exact pure_ (Instr.fieldAt t (a.eval x) f) (by simp[execOp,e]) (uG h (g.ev x))
 .rename_i t x i e;exact pure_ (Instr.indexAt t (a.eval x) (a.eval i)) (by simp[execOp,e]) (uF h (g.ev x) (g.ev i))
 .rename_i t x i e;rw[e]at j;simp[Fr]at j
 .rename_i x i e;have k:=g.ev x
  cases p:ev O x<;>rw[p]at h k<;>try exact h.elim
  rename_i l;simp only at h
  cases E:l[i]? with
  | none=>rw[E]at h;exact h.elim
  | some z =>
   rw[E]at h;simp only[bs]at k;obtain⟨vs,k,F⟩:=k;obtain⟨v,L,M⟩:=uP l vs F i z E;exact⟨_,v,h,M,by simp[execOp,e,Instr.extract,k,L]⟩
 .rename_i c e;unfold uI at h;split at h
  .rename_i f m;obtain⟨ce,ar,at_⟩:=c;simp only at m;subst m;rw[e]at j;simp[Fr]at j
  .rename_i B;split at h
   .rename_i x t k P;have G:c.args=#[x]:=by apply gP;simpa using k
    have H:c.argTypes=#[t]:=by apply gP;simpa using P
    exact pure_ (Builtin.len_ #[t] o.type #[a.eval x]) (by simp[execOp,e,resolve,B,invoke,builtin,G,H]) (AJ h (g.ev x))
   .exact h.elim
  .rename_i m;obtain⟨ce,ar,at_⟩:=c;simp only at m;subst m;rw[e]at j;simp[Fr]at j
  .rename_i m;obtain⟨ce,ar,at_⟩:=c;simp only at m;subst m;rw[e]at j;simp[Fr]at j
  .rename_i m;obtain⟨ce,ar,at_⟩:=c;simp only at m;subst m;rw[e]at j;simp[Fr]at j
  .exact h.elim
 .exact h.elim
def CW(h:BM o O S z){N:Nat}{a:Act}{w:World}(d:RT O S N a w){next:Act->World->Prop}{Q:Exit->Act->World->Prop}
  (k:∀v w',bs w' S.dom z v->dz BJ BJ w w'->next (a.put o.dst v) w'):o.wp ah a w next Q:=by
 rcases h with⟨y,h⟩|h
 .obtain⟨z',v,⟨rfl,_⟩,i,m⟩:=Oa y h d;exact it m (k v w i (dz.refl _ _))
 .split at h
  .rename_i c p;split at h
   .rename_i f A;have b:=d.ev f
    cases q:ev O f<;>rw[q]at h b<;>try exact h.elim
    rename_i g l;simp only[bs]at b;obtain⟨vs,r,s⟩:=b;obtain⟨B,u⟩:=h;have j:(execOp a.eval o).run ah w=.ok (.enter g (c.args.map a.eval++vs.toArray)) w:=by
     simp[execOp,p,resolve,A,Deferred.ofValue,r,invoke,ND B]
    unfold Oper.wp;rw[j];have hargs:(c.args.map a.eval++vs.toArray)=(c.args.toList.map a.eval++vs).toArray:=by apply gP;simp
    rw[hargs];refine(u w _ d.st (oH _ _ _ _ (pF d _) s)).mono ?_;rintro e w' ⟨v,rfl,x,i⟩;exact k v w' x i
   .exact h.elim
  .rename_i t n ps p;obtain⟨v,w',x,i,m⟩:=t9 h d.st (rH d ps.toList);exact it (by rw[qx p,x];rfl) (k v w' i m)
  .exact h.elim
def rZ(a:∀x,x∈o.op.operands.toList->ev O x=ev O' x)(h:BM o O S z):BM o O' S z:=by
 rcases h with⟨e,h⟩|h
 .exact bF ⟨e,wE a h⟩
 .refine bH ?_;split at h
  .rename_i c b;rw[b]at a;simp only[Op.operands,Call.operands]at a;split at h
   .rename_i f g;rw[g]at a;simp only at a;have d:c.args.toList.map (ev O)=c.args.toList.map (ev O'):=lW fun x i=>a x (by simp;exact bH (by simpa using i))
    rw[<-a f sm,<-d];exact h
   .exact h.elim
  .rename_i t n ps b;rw[b]at a;have d:(ps.toList.map fun p=>(p.1,ev O p.2))=ps.toList.map fun p=>(p.1,ev O' p.2):=lW fun p j=>by
    rw[a p.2 (by simp only[Op.operands];simp;exact⟨p.1,by simpa using j⟩)]
   rw[<-d];exact h
  .exact h.elim
def GJ:List Oper->Tm->St->List (Nat×eS)->(Tm->List (Nat×eS)->Prop)->Prop
 | [],O,_,pend,K=>K O pend
 | o::l,O,S,pend,K=>(match o.op,o.dst with
  | .alloc t,some d=>(match mT t with
   | some X=>GJ l (O.put (some d) .any) S (pend++[(d,X)]) K
   | ab=>False)
  | _,_=>∃z,BM o O S z/\GJ l (O.put o.dst z) S pend K)
def oE:List (Nat×eS)->Tm->St->(Tm->St->Prop)->Prop
 | [],O,S,K=>K O S
 | (d,X)::r,O,S,K=>∀b,S b=ab->oE r (O.put (some d) (.ptr X.es b 0)) (S.upd b X) K
def Ao(ds:List Nat)(O:Tm):Tm:=fun t=>if ds.contains t&&!pI (O t)then .any else O t
def qb(l:List Oper):List Nat:=l.filterMap (·.dst)
def looks(o:Oper):List Nat:=o.op.operands.toList.filterMap fun
 | .tmp t=>some t
 | _=>ab
def aft(o:Oper):List Nat:=(o.after.toList.filter (Region.binds .any)).map (·.on)
def tO(ops:Array Oper):Nat->Nat->Nat->Bool
 | 0,_,_=>false
 | f+1,j,i=>(match ops[i]? with
  | some o=>(aft o).contains j||(aft o).any (fun k=>Nat.ble j k&&tO ops f j k)
  | ab=>false)
theorem CI:∀(l:List Oper) (O:Tm) (S:St) (pend:List (Nat×eS)) (K:Tm->List (Nat×eS)->Prop),GJ l O S pend K ->
  ∃(Os:Nat->Tm) (al:Nat->Option eS),Os 0=O/\K (Os l.length) (pend++(gF l.length).filterMap (fun i=>(al i).bind fun X=>(l[i]?).bind fun o=>o.dst.map fun d=>(d,X))) /\
   ∀i o,l[i]? = some o->(∃t d X,o.op=.alloc t/\o.dst=some d/\mT t=some X/\al i=some X/\Os (i+1)=(Os i).put (some d) .any) ∨
    (al i=ab/\∃z,BM o (Os i) S z/\Os (i+1)=(Os i).put o.dst z)
 | [],O,S,pend,K,h=>⟨fun _=>O,fun _=>ab,rfl,by simpa [GJ]using h,fun i o c=>by simp at c⟩
 | o::l,O,S,pend,K,h=>by
  have glue:∀(x:Option eS) (O1:Tm) (pend1:List (Nat×eS)),(pend1=pend++(x.bind fun X=>o.dst.map fun d=>(d,X)).toList)->GJ l O1 S pend1 K ->
    ((∃t d X,o.op=.alloc t/\o.dst=some d/\mT t=some X/\x=some X/\O1=O.put (some d) .any)∨(x=ab/\∃z,BM o O S z/\O1=O.put o.dst z)) ->
    ∃(Os:Nat->Tm) (al:Nat->Option eS),Os 0=O/\K (Os (o::l).length) (pend++(gF (o::l).length).filterMap (fun i=>(al i).bind fun X=>((o::l)[i]?).bind fun o=>o.dst.map fun d=>(d,X))) /\
     ∀i o',(o::l)[i]? = some o'->(∃t d X,o'.op=.alloc t/\o'.dst=some d/\mT t=some X/\al i=some X/\Os (i+1)=(Os i).put (some d) .any) ∨
      (al i=ab/\∃z,BM o' (Os i) S z/\Os (i+1)=(Os i).put o'.dst z):=by
   intro x O1 pend1 k e m;obtain⟨Os,al,n,b,p⟩:=CI l O1 S pend1 K e;refine⟨fun i=>match i with|0=>O|i+1=>Os i,fun i=>match i with|0=>x|i+1=>al i,rfl,?_,fun i o' c=>?_⟩
   .simp only[cq];rw[k]at b;rw[List.range_succ_eq_map,Bi,List.filterMap_map];have q:(fun i=>((al i).bind fun X=>(l[i]?).bind fun o=>o.dst.map fun d=>(d,X)))=((fun i=>(match i with|0=>x|i+1=>al i:Option eS).bind fun X=>((o::l)[i]?).bind fun o=>o.dst.map fun d=>(d,X))∘Nat.succ):=by
     funext i;simp
    rw[<-q]
    cases a:(x.bind fun X=>o.dst.map fun d=>(d,X))with
    | none=>rw[a]at b;simp only[Option.toList_none,wN]at b;simp only[c8,dE];rw[a];exact b
    | some y=>rw[a]at b;simp only[UJ,EM,TQ]at b;simp only[c8,dE];rw[a];exact b
   .cases i with
    | zero =>
     simp at c;subst c;simp only[n];exact m
    | succ i =>
     simp only[ci]at c;exact p i o' c
  unfold GJ at h;split at h
  .rename_i t d f j
   cases g:mT t with
   | none=>rw[g]at h;exact h.elim
   | some X =>
    rw[g]at h;exact glue (some X) _ _ (by rw[j];rfl) h (bF ⟨t,d,X,f,j,g,rfl,rfl⟩)
  .obtain⟨z,r,e⟩:=h;exact glue ab _ _ sm e (bH ⟨rfl,z,r,rfl⟩)

def mn(h:i∈kL .any ops listed):∃o,ops[i]? = some o/\listed.getD i true=false/\∀k∈aft o,listed.getD k false=true:=by
 simp only[kL,pK,jq,au,ll]at h;obtain⟨d,f,a⟩:=h;have b:ops[i]? = some ops[i]:=cw d;rw[b]at a;refine⟨ops[i],b,f,fun k c=>?_⟩;simp only[du,fW]at a;simp only[aft,ie,pK]at c;obtain⟨e,⟨g,j⟩,rfl⟩:=c;have:=(EP.1 a) e (by simpa using g)
 simpa [j]using this
def MO(a:ops[i]? = some o)(c:listed.getD i true=false)(d:∀k∈aft o,listed.getD k false=true):i∈kL .any ops listed:=by
 have f:i<ops.size:=(fO.1 a).1;simp only[kL,pK,jq,au,ll];refine⟨f,c,?_⟩;rw[a];simp only[du,fW];refine EP.2 fun e g=>?_;by_cases b:Region.binds .any e=true
 .have:=d e.on (by simp only[aft,ie,pK];exact⟨e,⟨by simpa using g,b⟩,rfl⟩)
  rw[this];simp
 .simp[b]
def T7(listed:Array Bool):Nat:=listed.toList.countP (·==false)
def Jh(h:listed.getD i true=false):T7 (listed.setIfInBounds i true)+1=T7 listed:=by
 have a:i<listed.size:=by
  rcases aC i listed.size with b|b
  .exact b
  .rw[cO,eC b]at h;cases h
 have c:listed.toList[i]'(by simpa using a)=false:=by
  rw[cO,cw a]at h;simpa using h
 simp only[T7,Array.toList_setIfInBounds];rw[List.countP_set (by simpa using a),c]
 have:0<listed.toList.countP (·==false):=List.countP_pos_iff.2 ⟨false,by rw[<-c];exact GN _,rfl⟩
 rw[ai (by rfl),af dc]
 omega
def mq(listed:Array Bool)(i k:Nat)(d:Bool)(a:i<listed.size):(listed.setIfInBounds i true).getD k d=if k=i then true else listed.getD k d:=by
 simp only[cO];by_cases e:k=i
 .subst e;simp[a]
 .rw[af e,dR (aj e)]
theorem pN{ops:Array Oper}{Q:Exit->Act->World->Prop}(I:Array Bool->Act->World->Prop)
  (hstep:∀listed a w i,I listed a w->i∈kL .any ops listed->wpOp ah ops Q i (fun a' w'=>I (listed.setIfInBounds i true) a' w') a w)
  (b:∀listed a w,I listed a w->kL .any ops listed=[]->Q .normal a w) :
  ∀fuel listed a w,T7 listed<=fuel->I listed a w->wpAny ah .any ops Q fuel listed a w
 | 0,listed,a,w,g,c=>by
  have d:kL .any ops listed=[]:=by
   cases d:kL .any ops listed with
   | nil=>rfl
   | cons x xs =>
    obtain⟨o,_,e,_⟩:=mn (i:=x) (by rw[d];exact eH ..)
    have:=Jh e;omega
  exact⟨d,b listed a w c d⟩
 | fuel+1,listed,a,w,g,c=>by
  refine⟨b listed a w c,fun i f=>?_⟩;obtain⟨o,_,e,_⟩:=mn f;have j:=Jh e;exact wpOp_mono (fun a' w' h=>pN I hstep b fuel _ a' w' om h) (hstep listed a w i c f)
def wV(ops:Array Oper)(listed:Array Bool):Prop:=∀(i:Nat) (o:Oper),ops[i]? = some o->listed.getD i false=true->∀k∈aft o,listed.getD k false=true
theorem tN{ops:Array Oper}{listed:Array Bool}(b:wV ops listed):∀(f j i:Nat) (o:Oper),ops[i]? = some o->(∀k∈aft o,listed.getD k false=true)->tO ops f j i=true->listed.getD j false=true
 | 0,_,_,_,_,_,h=>by simp[tO]at h
 | f+1,j,i,o,d,c,h=>by
  simp only[tO,d,gM]at h;rcases h with h|h
  .exact c j (by simpa using h)
  .obtain⟨k,e,h⟩:=U7.1 h
   replace h:=(au _ _▸h:_/\_).2
   cases f with
   | zero=>simp[tO]at h
   | succ f =>
    cases a:ops[k]? with
    | none=>simp[tO,a]at h
    | some ok=>exact tN b (f+1) j k ok a (b k ok a (c k e)) h
def ml(h:l[i]? = some o):(o,i)∈l.zipIdx:=by
 rw[List.mem_zipIdx_iff_getElem?];exact h
def tW(h:∀t∈looks o,O t=O' t):∀x,x∈o.op.operands.toList->ev O x=ev O' x:=by
 intro x a
 cases x with
 | tmp t=>exact h t (by simp only[looks,UO];exact⟨.tmp t,a,rfl⟩)
 | const v=>rfl
 | global g=>rfl
 | func f=>rfl
def eM.fresh(h:eM w S){b:Nat}(c:w.heap.size<=b):S b=ab:=by
 cases e:S b with
 | none=>rfl
 | some X=>obtain⟨cs,a,_⟩:=h b X e;exact absurd (gA a) om

mutual
theorem bs.turn{M M':Nat->Prop}{w:World}(o:∀k,k<w.heap.size->M' k->M k):∀(a:AV) (v:Value),bs w M a v->bs w M' a v
 | .int k n,v,h=>by simpa [bs]using h
 | .bool b,v,h=>by simpa [bs]using h
 | .big z,v,h=>by simpa [bs]using h
 | .nil,v,h=>by simpa [bs]using h
 | .sl es b off len,v,h=>by simpa [bs]using h
 | .ptr es b i,v,h=>by simpa [bs]using h
 | .lst es n g,v,h=>by
  simp only[bs]at h ⊢;obtain⟨A,c,d,m,C⟩:=h;refine⟨A,c,d,m,fun D=>?_⟩;obtain⟨b,off,e,s,q,E⟩:=C D;refine⟨b,off,e,s,fun r=>q (o b s r),fun j t=>?_⟩;obtain⟨u,y,B⟩:=E j t;exact⟨u,y,bs.turn o (g j) u B⟩
 | .pat es x,v,h=>by
  simp only[bs]at h ⊢;obtain⟨b,off,u,d,s,q,y,F⟩:=h;exact⟨b,off,u,d,s,fun r=>q (o b s r),y,bs.turn o x u F⟩
 | .tup l,v,h=>by
  simp only[bs]at h ⊢;obtain⟨vs,d,m⟩:=h;exact⟨vs,d,aT.turn o l vs m⟩
 | .agg l,v,h=>by
  simp only[bs]at h ⊢;obtain⟨vs,d,m⟩:=h;exact⟨vs,d,aT.turn o l vs m⟩
 | .fn f l,v,h=>by
  simp only[bs]at h ⊢;obtain⟨vs,d,m⟩:=h;exact⟨vs,d,aT.turn o l vs m⟩
 | .mag n,v,h=>by simpa [bs]using h
 | .fp b i f,v,h=>by simpa [bs]using h
 | .bset p,v,h=>by simpa [bs]using h
 | .any,v,h=>by simp[bs]
 | .nfn,v,h=>by simpa [bs]using h
 | .mfn f l,v,h=>by
  simp only[bs]at h ⊢;obtain⟨vs,d,m⟩:=h;exact⟨vs,d,aT.turn o l vs m⟩
theorem aT.turn{M M':Nat->Prop}{w:World}(b:∀k,k<w.heap.size->M' k->M k):∀(l:List AV) (vs:List Value),aT w M l vs->aT w M' l vs
 | [],[],_=>by simp[aT]
 | a::l,v::vs,h=>by
  simp only[aT]at h ⊢;exact⟨bs.turn b a v h.1,aT.turn b l vs h.2⟩
 | [],_::_,h=>by simp[aT]at h
 | _::_,[],h=>by simp[aT]at h
end
def dz.any(h:dz BJ BJ w w')(M:Nat->Prop):dz M M w w':=⟨h.os,h.tape,h.output,h.size,fun k a _=>h.keep k a (fun x=>x),h.shape,fun _ _ h=>h⟩
def eM.frozen(h:eM w S)(a:dz BJ BJ w w'):eM w' S:=⟨h.z,h.gl.grow a (fun x=>x),fun b X d=>by
 obtain⟨cs,c,e,f,g⟩:=h b X d;exact⟨cs,(a.keep b (gA c) (fun x=>x)).trans c,e,fun j i=>by obtain⟨u,k,l⟩:=f j i;exact⟨u,k,bs.grow h.noU (a.any _) _ _ l⟩,g⟩⟩
def R4(w:World)(M:Nat->Prop)(S:St):Prop:=∀b x,S b=some x->∃cs,w.heap[b]? = some (.cells cs x.ty (0,0))/\x.es*x.n<=cs.size /\
 (∀j,j<x.n->∃u,reads cs (x.es*j) x.es u/\bs w M (x.g j) u)/\∀(k:Nat) (y:Value),cs[k]? = some y->lU y
def ZX(X:eS)(zc:Array Value):Prop:=X.es*X.n<=zc.size/\(∀w M j,j<X.n->∃u,reads zc (X.es*j) X.es u/\bs w M (X.g j) u)/\∀(k:Nat) (y:Value),zc[k]? = some y->lU y
theorem xK{w:World}{a:Act}{N B0:Nat}{M:Nat->Prop}{K:Tm->St->Prop}:∀(L:List (Nat×eS×Nat)) (O:Tm) (S:St),oE (L.map fun x=>(x.1,x.2.1)) O S K ->
  R4 w M S->(∀t,bs w M (O t) (a.tmps.getD t undef))->(∀x∈L,a.tmps.getD x.1 undef=.pointer (some ⟨x.2.2,0,ab⟩)/\∃zc,w.heap[x.2.2]? = some (.cells zc x.2.1.ty (0,0))/\ZX x.2.1 zc) ->
  (L.map (·.2.2)).Nodup->(∀x∈L,S x.2.2=ab/\B0<=x.2.2) ->
  ∃O' S',K O' S'/\R4 w M S'/\(∀t,bs w M (O' t) (a.tmps.getD t undef))/\∀k,S'.dom k->S.dom k∨B0<=k
 | [],O,S,h,i,l,_,_,_=>⟨O,S,by simpa [oE]using h,i,l,fun k m=>bF m⟩
 | (d,X,b)::L,O,S,h,i,l,o,n,p=>by
  simp only[cU,oE]at h;obtain⟨q,zc,r,s,u,v⟩:=o (d,X,b) (eH ..);obtain⟨y,z⟩:=p (d,X,b) (eH ..);simp only at q r s u v y z;simp only[cU,wJ]at n;obtain⟨O',S',A,B,C,D⟩:=xK (B0:=B0) (N:=N) L (O.put (some d) (.ptr X.es b 0)) (S.upd b X) (h b y)
   (fun k Y c=>by
    simp only[St.upd]at c;by_cases e:k=b
    .rw[ai e]at c;cases c;subst e;exact⟨zc,r,s,fun j E=>u w M j E,v⟩
    .rw[af e]at c;exact i k Y c)
   (fun t=>by
    simp only[Tm.put_eq];by_cases e:t=d
    .subst e;rw[ai rfl,q];simp[bs]
    .rw[af e];exact l t)
   (fun x g=>o x (dT _ g)) n.2
   (fun x g=>by
    obtain⟨F,G⟩:=p x (dT _ g);refine⟨?_,G⟩;simp only[St.upd];rw[af]
    .exact F
    .intro e;exact n.1 (by rw[<-e];exact ie.2 ⟨x,g,rfl⟩))
  refine⟨O',S',A,B,C,fun k m=>?_⟩;rcases D k m with f|f
  .simp only[St.dom,St.upd]at f ⊢;by_cases e:k=b
   .right;rw[e];exact z
   .rw[af e]at f;exact bF f
  .exact bH f
def vV{t:Nat}(h:d≠some t):(a.put d v).tmps.getD t undef=a.tmps.getD t undef:=by
 cases d with
 | none=>rfl
 | some d =>
  simp only[Act.put,cO];rw[dR (fun e=>h (by rw[e]))]
def put_eq{d:Nat}(h:d<a.tmps.size):(a.put (some d) v).tmps.getD d undef=v:=by
 simp[Act.put,Array.getD,h]
def zP:(a.put d v).tmps.size=a.tmps.size:=by cases d<;>simp[Act.put]
def sT:(a.put d v).defers=a.defers:=by cases d<;>simp[Act.put]

end Go.Proofs.YtdobfmlmenaajaaGreatDoor
