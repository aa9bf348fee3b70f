/-
  Lemmas for NeighbourMembers.
-/
import Derived.Test.YtdobfmlmenaajaaGreatDoorN09
namespace Go.Proofs.YtdobfmlmenaajaaGreatDoor
open Go.RowKit
open _root_.Array renaming getElem?_eq_getElem→aB,getD_eq_getD_getElem?→aF,ext'→fz
open _root_.Bool renaming and_eq_true→au,or_eq_true→cW,not_eq_true'→eO
open _root_.List renaming all_eq_true→az,replicate→bL,range→cf,map_cons→cj,mem_of_getElem?→cq,length_cons→cr,getElem?_cons_zero→cE,mem_cons_self→dU,mem_range→ep,mem_map→eY,mem_filter→nN,map_congr_left→nU
open _root_.Option renaming none→ac,map_eq_some_iff→ck,bind_some→cQ,map_some→da,getD_some→fG
open _root_.Or renaming inr→bD,inl→bH
set_option maxHeartbeats 6400000
set_option maxRecDepth 4096
set_option linter.all false
def JW(P:Program)(f:Nat):Bool:=match P.funcs[f]? with
 | some fn => fn.body.isSome && fn.name != "runtime.NumGoroutine"
 | ac=>false
theorem KW:(cf 259).all (fun i=>i==241||(i==242||JW Tryz.prog (i+11)))=true:=by kernel_rfl
theorem Gy{f:Nat}(h:(11<=f/\f<270)/\f≠252/\f≠253)(args:Array Value)(w:World):(callFunc f args).run Tryz.prog w=.ok (.enter f args) w:=by
 have h1:=az.1 KW (f-11) (by simp;omega)
 rw[show f-11+11=f by omega]at h1
 have e1:(f-11==241)=false:=by simp;omega
 have e2:(f-11==242)=false:=by simp;omega
 rw[e1,e2,Bool.false_or,Bool.false_or]at h1;unfold JW at h1
 cases hf:Tryz.prog.funcs[f]? with
 | none=>rw[hf]at h1;cases h1
 | some fn =>
  rw[hf]at h1;simp only[au,bne_iff_ne,ne_eq]at h1;simp[callFunc,hf,h1.2];intro hb;simp[hb]at h1
def G4(x y:AV)(K:AV->Prop):Prop:=match x,y with
 | .int k a,.int k' b=>k=k'/\K (.int k (if b > a then b else a))
 | _,_=>False
theorem CJ{x y:AV}{K:AV->Prop}(h:G4 x y K){w:World}{M:Nat->Prop}{vx vy:Value}(hx:a8 w M x vx)(hy:a8 w M y vy)(ts:Array TypeId)(t:TypeId) :
  ∃z v,K z/\a8 w M z v/\(Builtin.max_ ts t #[vx,vy]).run Tryz.prog w=.ok v w:=by
 unfold G4 at h;split at h
 ·rename_i k a k' b;obtain⟨rfl,hK⟩:=h;simp only[a8]at hx hy;subst hx hy;exact⟨_,.int k (if b > a then b else a),hK,by simp[a8],by simp[Builtin.max_,Builtin.max2]⟩
 ·exact h.elim
def pX(f:Nat)(l r:List AV)(K:AV->Prop):Prop:=match l with
 | []=>K (.fn f r)
 | x::l=>r=[]/\K (.mfn f (x::l))
def qW(O:Tm)(c:Call)(S:St)(K:AV->St->Prop):Prop:=match c.callee with
 | .value f=>(match ev O f with
  | .fn f l=>((11<=f/\f<270)/\f≠252/\f≠253)/\cM f (c.args.toList.map (ev O)++l) S K
  | .mfn f l=>((11<=f/\f<270)/\f≠252/\f≠253)/\cM f (l++c.args.toList.map (ev O)) S K
  | _=>False)
 | .builtin .len=>(match c.args.toList,c.argTypes.toList with
  | [x],[t]=>zn t (ev O x) (fun z=>K z S)
  | _,_=>False)
 | .builtin .max=>(match c.args.toList with
  | [x,y]=>G4 (ev O x) (ev O y) (fun z=>K z S)
  | _=>False)
 | .builtin .append=>(match c.args.toList,c.argTypes.toList with
  | [s,x],[t,t']=>if t'=3 then lN t (ev O s) (ev O x) S K else eL t t' (ev O s) (ev O x) S K
  | _,_=>False)
 | .builtin .copy=>(match c.args.toList,c.argTypes.toList with
  | [s,x],[t,_]=>pE t (ev O s) (ev O x) S K
  | _,_=>False)
 | _=>False
def oO(t:TypeId)(ps:List (Nat×AV))(K:AV->Prop):Prop:=match t,ps with
 | 50,[]=>K (.big 0)
 | 167,[(0,x),(1,y)]=>du 2 x/\du 2 y/\K (.agg [x,y])
 | 183,[(0,x),(1,y)]=>du 1 x/\du 1 y/\K (.agg [x,y])
 | 218,[(0,x),(1,y)]=>du 1 x/\du 1 y/\K (.agg [x,y])
 | 107,[(0,x)]=>du 1 x/\K (.agg [x,.int .i64 0])
 | 195,[(0,x),(1,y)]=>du 2 x/\du 2 y/\K (.agg [x,y])
 | 238,[(0,x),(1,y),(2,z)]=>du 1 x/\du 1 y/\du 1 z/\K (.agg [x,y,z])
 | 160,[(0,x),(1,y)]=>du 1 x/\du 1 y/\K (.agg [x,y,.nil,.nfn])
 | 202,[(0,x),(1,y)]=>du 1 x/\du 1 y/\K (.agg [x,y])
 | 197,[(0,x),(1,y),(2,z),(3,.agg [p,q]),(4,.agg [r,s])]=>du 2 x/\du 2 y/\du 2 z/\du 2 p/\du 2 q/\du 2 r/\du 2 s/\K (.agg [x,y,z,p,q,r,s])
 | _,_=>False
theorem eI{t:TypeId}{z:Value}{s b:Nat}(hc:kA Tryz.prog t=some (z,s,b)):∃i,Tryz.prog.info? t=some i/\i.zero=some z/\i.size=s:=by
 unfold kA at hc
 cases hi:Tryz.prog.info? t with
 | none=>rw[hi]at hc;simp at hc
 | some i =>
  rw[hi]at hc;simp only[cQ,ck,Prod.mk.injEq]at hc;obtain⟨z2,h1,h2,h3,h4⟩:=hc;exact⟨i,rfl,by rw[h1,h2],h3⟩
theorem z107:kA Tryz.prog 107=some (.agg #[.slice ac 0 0,.int .i64 0],2,32):=by kernel_rfl
theorem z183:kA Tryz.prog 183=some (.agg #[.slice ac 0 0,.slice ac 0 0],2,48):=by kernel_rfl
theorem z218:kA Tryz.prog 218=some (.agg #[.slice ac 0 0,.int .i64 0],2,32):=by kernel_rfl
theorem z167:kA Tryz.prog 167=some (.agg #[.bool false,.slice ac 0 0,.bool false,.slice ac 0 0],4,64):=by kernel_rfl
theorem z50:kA Tryz.prog 50=some (.agg #[.bool false,.slice ac 0 0],2,32):=by kernel_rfl
theorem z52:kA Tryz.prog 52=some (.slice ac 0 0,1,24):=by kernel_rfl
theorem z216:kA Tryz.prog 216=some (.slice ac 0 0,1,24):=by kernel_rfl
theorem z22:kA Tryz.prog 22=some (.slice ac 0 0,1,24):=by kernel_rfl
theorem z195:kA Tryz.prog 195=some (.agg #[.bool false,.slice ac 0 0,.bool false,.slice ac 0 0],4,64):=by kernel_rfl
theorem z197:kA Tryz.prog 197=some (.agg (bL 7 [.bool false,.slice ac 0 0]).flatten.toArray,14,224):=by kernel_rfl
theorem z160:kA Tryz.prog 160=some (.agg #[.slice ac 0 0,.slice ac 0 0,.slice ac 0 0,.nilFunc],4,80):=by kernel_rfl
theorem z202:kA Tryz.prog 202=some (.agg #[.int .u64 0,.int .u64 0],2,16):=by kernel_rfl
theorem z97:kA Tryz.prog 97=some (.int .u64 0,1,8):=by kernel_rfl
theorem z59:kA Tryz.prog 59=some (.slice ac 0 0,1,24):=by kernel_rfl
theorem z2:kA Tryz.prog 2=some (.int .i64 0,1,8):=by kernel_rfl
theorem z238:kA Tryz.prog 238=some (.agg #[.int .i64 0,.int .i64 0,.int .i64 0],3,24):=by kernel_rfl
theorem z3:kA Tryz.prog 3=some (.int .i64 0,1,8):=by kernel_rfl
theorem fq{w:World}{M:Nat->Prop}{x:AV}{v:Value}(h:du 1 x)(hr:a8 w M x v):v.cells=#[v]:=by
 rcases yy h hr with⟨_,h1,_⟩|⟨e,_⟩
 ·exact pg h1
 ·omega
theorem fo{w:World}{M:Nat->Prop}{x:AV}{v:Value}(h:du 2 x)(hr:a8 w M x v):∃p q,v=.agg #[p,q]:=by
 rcases yy h hr with⟨e,_⟩|⟨_,p,q,e,_⟩
 ·omega
 ·exact⟨p,q,e⟩
theorem qX{t:TypeId}{ps:List (Nat×AV)}{K:AV->Prop}(h:oO t ps K){w:World}{M:Nat->Prop}{qs:List (Nat×Value)}(hp:nI w M ps qs) :
  ∃z u,K z/\a8 w M z u/\(Instr.build t qs.toArray).run Tryz.prog w=.ok u w:=by
 unfold oO at h;split at h
 ·cases qs with
  | cons _ _=>exact hp.elim
  | nil =>
   refine⟨_,.agg #[.bool false,.slice ac 0 0],h,by simp only[a8];exact dL.zero w,?_⟩
   obtain⟨i,h1,h2,_⟩:=mD (t:=50) (es:=2) (x:=.big 0) (z:=.agg #[.bool false,.slice ac 0 0]) rfl;have hu:=Tryz.underlying50;simp[Instr.build,zeroValue,typeInfo,h1,h2,Instr.fill,Value.cells]
 ·rename_i x y;obtain⟨sx,sy,hK⟩:=h
  match qs,hp with
  | [(a,vx),(b,vy)],hp =>
   simp only[nI]at hp;obtain⟨rfl,rx,rfl,ry,_⟩:=hp;obtain⟨p1,p2,rfl⟩:=fo sx rx;obtain⟨q1,q2,rfl⟩:=fo sy ry;obtain⟨i,i1,i2,i3⟩:=eI z167;obtain⟨j,j1,j2,j3⟩:=eI z50;refine⟨_,.agg #[p1,p2,q1,q2],hK,by simp only[a8];exact⟨[.agg #[p1,p2],.agg #[q1,q2]],by simp[Value.cells],by simp only[a6];exact⟨rx,ry,trivial⟩⟩,?_⟩
   simp[Instr.build,zeroValue,typeInfo,i1,i2,run_underlying Tryz.underlying167,cp j1,j3,Instr.fill,Value.cells]
  | [],hp=>exact hp.elim
  | [_],hp=>exact hp.2.2.elim
  | _::_::_::_,hp=>exact hp.2.2.2.2.elim
 ·rename_i x y;obtain⟨sx,sy,hK⟩:=h
  match qs,hp with
  | [(a,vx),(b,vy)],hp =>
   simp only[nI]at hp;obtain⟨rfl,rx,rfl,ry,_⟩:=hp;have cx:=fq sx rx;have cy:=fq sy ry;obtain⟨i,i1,i2,i3⟩:=eI z183;obtain⟨j,j1,j2,j3⟩:=eI z52;refine⟨_,.agg #[vx,vy],hK,by simp only[a8];exact⟨[vx,vy],by simp[cx,cy],by simp only[a6];exact⟨rx,ry,trivial⟩⟩,?_⟩
   simp[Instr.build,zeroValue,typeInfo,i1,i2,run_underlying Tryz.underlying183,cp j1,j3,Instr.fill,cx,cy];simp[Value.cells]
  | [],hp=>exact hp.elim
  | [_],hp=>exact hp.2.2.elim
  | _::_::_::_,hp=>exact hp.2.2.2.2.elim
 ·rename_i x y;obtain⟨sx,sy,hK⟩:=h
  match qs,hp with
  | [(a,vx),(b,vy)],hp =>
   simp only[nI]at hp;obtain⟨rfl,rx,rfl,ry,_⟩:=hp;have cx:=fq sx rx;have cy:=fq sy ry;obtain⟨i,i1,i2,i3⟩:=eI z218;obtain⟨j,j1,j2,j3⟩:=eI z216;obtain⟨k,k1,k2,k3⟩:=eI z3;refine⟨_,.agg #[vx,vy],hK,by simp only[a8];exact⟨[vx,vy],by simp[cx,cy],by simp only[a6];exact⟨rx,ry,trivial⟩⟩,?_⟩
   simp[Instr.build,zeroValue,typeInfo,i1,i2,run_underlying Tryz.underlying218,cp j1,j3,cp k1,k3,Instr.fill,cx,cy];simp[Value.cells]
  | [],hp=>exact hp.elim
  | [_],hp=>exact hp.2.2.elim
  | _::_::_::_,hp=>exact hp.2.2.2.2.elim
 ·rename_i x;obtain⟨sx,hK⟩:=h
  match qs,hp with
  | [(a,vx)],hp =>
   simp only[nI]at hp;obtain⟨rfl,rx,_⟩:=hp;have cx:=fq sx rx;obtain⟨i,i1,i2,i3⟩:=eI z107;obtain⟨j,j1,j2,j3⟩:=eI z22;obtain⟨k,k1,k2,k3⟩:=eI z3;refine⟨_,.agg #[vx,.int .i64 0],hK,by simp only[a8];exact⟨[vx,.int .i64 0],by simp[cx];rfl,by simp only[a6,a8];exact⟨rx,trivial,trivial⟩⟩,?_⟩
   simp[Instr.build,zeroValue,typeInfo,i1,i2,run_underlying Tryz.underlying107,cp j1,j3,cp k1,k3,Instr.fill,cx];simp[Value.cells]
  | [],hp=>exact hp.elim
  | _::_::_,hp=>exact hp.2.2.elim
 ·rename_i x y;obtain⟨sx,sy,hK⟩:=h
  match qs,hp with
  | [(a,vx),(b,vy)],hp =>
   simp only[nI]at hp;obtain⟨rfl,rx,rfl,ry,_⟩:=hp;obtain⟨p1,p2,rfl⟩:=fo sx rx;obtain⟨q1,q2,rfl⟩:=fo sy ry;obtain⟨i,i1,i2,i3⟩:=eI z195;obtain⟨j,j1,j2,j3⟩:=eI z50;refine⟨_,.agg #[p1,p2,q1,q2],hK,by simp only[a8];exact⟨[.agg #[p1,p2],.agg #[q1,q2]],by simp[Value.cells],by simp only[a6];exact⟨rx,ry,trivial⟩⟩,?_⟩
   simp[Instr.build,zeroValue,typeInfo,i1,i2,run_underlying Tryz.underlying195,cp j1,j3,Instr.fill,Value.cells]
  | [],hp=>exact hp.elim
  | [_],hp=>exact hp.2.2.elim
  | _::_::_::_,hp=>exact hp.2.2.2.2.elim
 ·rename_i x y z;obtain⟨sx,sy,sz,hK⟩:=h
  match qs,hp with
  | [(a,vx),(b,vy),(c,vz)],hp =>
   simp only[nI]at hp;obtain⟨rfl,rx,rfl,ry,rfl,rz,_⟩:=hp;have cx:=fq sx rx;have cy:=fq sy ry;have cz:=fq sz rz;obtain⟨i,i1,i2,i3⟩:=eI z238;obtain⟨j,j1,j2,j3⟩:=eI z2;refine⟨_,.agg #[vx,vy,vz],hK,by simp only[a8];exact⟨[vx,vy,vz],by simp[cx,cy,cz],by simp only[a6];exact⟨rx,ry,rz,trivial⟩⟩,?_⟩
   simp[Instr.build,zeroValue,typeInfo,i1,i2,run_underlying Tryz.underlying238,cp j1,j3,Instr.fill,cx,cy,cz];simp[Value.cells]
  | [],hp=>exact hp.elim
  | [_],hp=>exact hp.2.2.elim
  | [_,_],hp=>exact hp.2.2.2.2.elim
  | _::_::_::_::_,hp=>exact hp.2.2.2.2.2.2.elim
 ·rename_i x y;obtain⟨sx,sy,hK⟩:=h
  match qs,hp with
  | [(a,vx),(b,vy)],hp =>
   simp only[nI]at hp;obtain⟨rfl,rx,rfl,ry,_⟩:=hp;have cx:=fq sx rx;have cy:=fq sy ry;obtain⟨i,i1,i2,i3⟩:=eI z160;obtain⟨j,j1,j2,j3⟩:=eI z59;obtain⟨k,k1,k2,k3⟩:=eI z52;refine⟨_,.agg #[vx,vy,.slice ac 0 0,.nilFunc],hK,by simp only[a8];exact⟨[vx,vy,.slice ac 0 0,.nilFunc],by simp[cx,cy];rfl,by simp only[a6,a8];exact⟨rx,ry,trivial,trivial,trivial⟩⟩,?_⟩
   simp[Instr.build,zeroValue,typeInfo,i1,i2,run_underlying Tryz.underlying160,cp j1,j3,cp k1,k3,Instr.fill,cx,cy];simp[Value.cells]
  | [],hp=>exact hp.elim
  | [_],hp=>exact hp.2.2.elim
  | _::_::_::_,hp=>exact hp.2.2.2.2.elim
 ·rename_i x y;obtain⟨sx,sy,hK⟩:=h
  match qs,hp with
  | [(a,vx),(b,vy)],hp =>
   simp only[nI]at hp;obtain⟨rfl,rx,rfl,ry,_⟩:=hp;have cx:=fq sx rx;have cy:=fq sy ry;obtain⟨i,i1,i2,i3⟩:=eI z202;obtain⟨j,j1,j2,j3⟩:=eI z97;refine⟨_,.agg #[vx,vy],hK,by simp only[a8];exact⟨[vx,vy],by simp[cx,cy],by simp only[a6];exact⟨rx,ry,trivial⟩⟩,?_⟩
   simp[Instr.build,zeroValue,typeInfo,i1,i2,run_underlying Tryz.underlying202,cp j1,j3,Instr.fill,cx,cy];simp[Value.cells]
  | [],hp=>exact hp.elim
  | [_],hp=>exact hp.2.2.elim
  | _::_::_::_,hp=>exact hp.2.2.2.2.elim
 ·rename_i x y z p q r s;obtain⟨sx,sy,sz,sp,sq,sr,ss,hK⟩:=h
  match qs,hp with
  | [(a,vx),(b,vy),(c,vz),(d,vp),(e,vr)],hp =>
   simp only[nI]at hp;obtain⟨rfl,rx,rfl,ry,rfl,rz,rfl,rp,rfl,rr,_⟩:=hp;simp only[a8]at rp rr;obtain⟨ps,rfl,rp⟩:=rp;obtain⟨rs,rfl,rr⟩:=rr
   match ps,rs,rp,rr with
   | [vp,vq],[vr,vs],rp,rr =>
    simp only[a6]at rp rr;obtain⟨rp,rq,_⟩:=rp;obtain⟨rr,rs,_⟩:=rr;obtain⟨a1,a2,rfl⟩:=fo sx rx;obtain⟨b1,b2,rfl⟩:=fo sy ry;obtain⟨c1,c2,rfl⟩:=fo sz rz;obtain⟨d1,d2,rfl⟩:=fo sp rp;obtain⟨e1,e2,rfl⟩:=fo sq rq;obtain⟨f1,f2,rfl⟩:=fo sr rr;obtain⟨g1,g2,rfl⟩:=fo ss rs;obtain⟨i,i1,i2,i3⟩:=eI z197;obtain⟨j,j1,j2,j3⟩:=eI z50;obtain⟨k,k1,k2,k3⟩:=eI z195;refine⟨_,.agg #[a1,a2,b1,b2,c1,c2,d1,d2,e1,e2,f1,f2,g1,g2],hK,by
     simp only[a8];exact⟨[.agg #[a1,a2],.agg #[b1,b2],.agg #[c1,c2],.agg #[d1,d2],.agg #[e1,e2],.agg #[f1,f2],.agg #[g1,g2]],by simp[Value.cells],by simp only[a6];exact⟨rx,ry,rz,rp,rq,rr,rs,trivial⟩⟩,?_⟩
    simp[Instr.build,zeroValue,typeInfo,i1,i2,run_underlying Tryz.underlying197,cp j1,j3,cp k1,k3,Instr.fill,Value.cells]
   | [],_,rp,_=>simp[a6]at rp
   | [_],_,rp,_=>simp[a6]at rp
   | _::_::_::_,_,rp,_=>simp[a6]at rp
   | [_,_],[],_,rr=>simp[a6]at rr
   | [_,_],[_],_,rr=>simp[a6]at rr
   | [_,_],_::_::_::_,_,rr=>simp[a6]at rr
  | [],hp=>exact hp.elim
  | [_],hp=>exact hp.2.2.elim
  | [_,_],hp=>exact hp.2.2.2.2.elim
  | [_,_,_],hp=>exact hp.2.2.2.2.2.2.elim
  | [_,_,_,_],hp=>exact hp.2.2.2.2.2.2.2.2.elim
  | _::_::_::_::_::_::_,hp=>exact hp.2.2.2.2.2.2.2.2.2.2.elim
 ·exact h.elim
theorem ya{w:World}{M:Nat->Prop}:∀(l:List AV) (vs:List Value),a6 w M l vs->∀(i:Nat) (z:AV),l[i]? = some z->∃v,vs[i]? = some v/\a8 w M z v
 | [],_,_,i,z,h=>by simp at h
 | x::l,v::vs,hr,0,z,h=>by simp only[a6]at hr;simp at h;subst h;exact⟨v,by simp,hr.1⟩
 | x::l,v::vs,hr,i+1,z,h=>by simp only[a6]at hr;simp at h;obtain⟨u,h1,h2⟩:=ya l vs hr.2 i z h;exact⟨u,by simpa using h1,h2⟩
 | _::_,[],hr,_,_,_=>by simp[a6]at hr
def zo(t:TypeId)(x i:AV)(K:AV->Prop):Prop:=match x,i with
 | .agg l,.int _ n=>(t=195/\∃p q,l=[p,q]/\du 2 p/\du 2 q/\(n=0∨n=1)/\K (if n=0 then p else q)) ∨
  ((t=238/\l.length=3∨t=239/\l.length=8)/\(∀z∈l,du 1 z)/\(0<=n/\n<(l.length:Int))/\K (l.getD n.toNat .any))
 | _,_=>False
theorem GR{w:World}{M:Nat->Prop}:∀(l:List AV) (vs:List Value),(∀z∈l,du 1 z)->a6 w M l vs->vs.flatMap (fun u=>u.cells.toList)=vs
 | [],[],_,_=>rfl
 | x::l,v::vs,hs,hr=>by
  simp only[a6]at hr;simp only[List.flatMap_cons,GR l vs (fun z hz=>hs z (List.mem_cons_of_mem _ hz)) hr.2,fq (hs x (dU ..)) hr.1];rfl
 | [],_::_,_,hr=>by simp[a6]at hr
 | _::_,[],_,hr=>by simp[a6]at hr
theorem CK{t:TypeId}{x y:AV}{K:AV->Prop}(h:zo t x y K){w:World}{M:Nat->Prop}{vx vy:Value}(hx:a8 w M x vx)(hy:a8 w M y vy) :
  ∃z v,K z/\a8 w M z v/\(Instr.index t vx vy).run Tryz.prog w=.ok v w:=by
 unfold zo at h;split at h
 ·rename_i l k n;simp only[a8]at hx hy;subst hy;obtain⟨vs,rfl,hr⟩:=hx;rcases h with⟨rfl,p,q,rfl,sp,sq,hn,hK⟩|⟨ht,hs,⟨h0,h1⟩,hK⟩
  ·match vs,hr with
   | [vp,vq],hr =>
    simp only[a6]at hr;obtain⟨rp,rq,_⟩:=hr;obtain⟨a1,a2,rfl⟩:=fo sp rp;obtain⟨b1,b2,rfl⟩:=fo sq rq;obtain⟨j,j1,j2,j3⟩:=eI z50;rcases hn with rfl|rfl
    ·refine⟨_,.agg #[a1,a2],hK,by simpa using rp,?_⟩
     simp[Instr.index,asIntOf,run_underlying Tryz.underlying195,cp j1,j3,part,isAgg,run_underlying Tryz.underlying50,Value.cells]
    ·refine⟨_,.agg #[b1,b2],hK,by simpa using rq,?_⟩
     simp[Instr.index,asIntOf,run_underlying Tryz.underlying195,cp j1,j3,part,isAgg,run_underlying Tryz.underlying50,Value.cells]
   | [],hr=>simp[a6]at hr
   | [_],hr=>simp[a6]at hr
   | _::_::_::_,hr=>simp[a6]at hr
  ·rw[GR l vs hs hr];have hlt:n.toNat<l.length:=by omega
   obtain⟨v,hv,hz⟩:=ya l vs hr n.toNat (l.getD n.toNat .any) (by simp[List.getD,List.getElem?_eq_getElem hlt])
   obtain⟨j,j1,j2,j3⟩:=eI z2;refine⟨_,v,hK,hz,?_⟩;rcases ht with⟨rfl,hl⟩|⟨rfl,hl⟩
   ·have h3:n<3:=by omega
    simp[Instr.index,asIntOf,run_underlying Tryz.underlying238,cp j1,j3,part,isAgg,run_underlying Tryz.underlying2,h0,h3,hv]
   ·have h3:n<8:=by omega
    simp[Instr.index,asIntOf,run_underlying Tryz.underlying239,cp j1,j3,part,isAgg,run_underlying Tryz.underlying2,h0,h3,hv]
 ·exact h.elim
def vF(o:Oper)(O:Tm)(S:St)(K:AV->St->Prop):Prop:=match o.op with
 | .move x=>K (ev O x) S
 | .assign x=>K (ev O x) S
 | .pick c x y=>(match ev O c with
  | .bool t=>K (if t then ev O x else ev O y) S
  | _=>False)
 | .alloc t=>kT t S K
 | .box t x=>iK t (ev O x) S K
 | .build t ps=>oO t (ps.toList.map fun p=>(p.1,ev O p.2)) (fun z=>K z S)
 | .buildSlice t n ps=>cL t n (ps.toList.map fun p=>(p.1,ev O p.2)) S K
 | .load t x=>mU t (ev O x) S (fun z=>K z S)
 | .store t x y=>nB t (ev O x) (ev O y) S (fun S'=>K .any S')
 | .nilCheck x=>(match ev O x with
  | .ptr es b i=>K (.ptr es b i) S
  | .pat es y=>K (.pat es y) S
  | _=>False)
 | .binOp op t x y _=>Bn op t (ev O x) (ev O y) (fun z=>K z S)
 | .unOp op _ x=>J7 op (ev O x) (fun z=>K z S)
 | .convert s d x=>qV s d (ev O x) (fun z=>K z S)
 | .makeFunc (.func f) fi cs=>pX f (fi.toList.map (ev O)) (cs.toList.map (ev O)) (fun z=>K z S)
 | .makeSlice t x y=>jr t (ev O x) (ev O y) S K
 | .slice t x lo hi mx=>jo t (ev O x) (lo.map (ev O)) (hi.map (ev O)) (mx.map (ev O)) (fun z=>K z S)
 | .fieldAddr t x f=>nF t (ev O x) f (fun z=>K z S)
 | .indexAddr t x i=>nE t (ev O x) (ev O i) (fun z=>K z S)
 | .index t x i=>zo t (ev O x) (ev O i) (fun z=>K z S)
 | .extract x i=>(match ev O x with
  | .tup l=>(match l[i]? with
   | some z=>K z S
   | ac=>False)
  | _=>False)
 | .call c=>qW O c S K
 | _=>False
theorem eW{o:Oper}{a:Act}{w w':World}{v:Value}{next:Act->World->Prop}{Q:Exit->Act->World->Prop}(hr:(execOp a.eval o).run Tryz.prog w=.ok (.value v) w')(hn:next (a.put o.dst v) w'):o.wp Tryz.prog a w next Q:=by
 unfold Oper.wp;rw[hr];exact hn
theorem BQ{o:Oper}{a:Act}{w w':World}{next:Act->World->Prop}{Q:Exit->Act->World->Prop}(hr:(execOp a.eval o).run Tryz.prog w=.ok .skip w')(hn:next (a.put o.dst undef) w'):o.wp Tryz.prog a w next Q:=by
 unfold Oper.wp;rw[hr];exact hn
theorem oR{O:Tm}{S:St}{N:Nat}{a:Act}{w:World}(h:RT O S N a w):∀ps:List (Nat×Operand),nI w S.dom (ps.map fun p=>(p.1,ev O p.2)) (ps.map fun p=>(p.1,a.eval p.2))
 | []=>by simp[nI]
 | p::ps=>by simp only[cj,nI];exact⟨trivial,h.ev p.2,oR h ps⟩
theorem mW{O:Tm}{S:St}{N:Nat}{a:Act}{w:World}(h:RT O S N a w):∀ps:List Operand,a6 w S.dom (ps.map (ev O)) (ps.map a.eval)
 | []=>by simp[a6]
 | p::ps=>by simp only[cj,a6];exact⟨h.ev p,mW h ps⟩
theorem ma{w:World}{M:Nat->Prop}:∀(l l':List AV) (vs vs':List Value),a6 w M l vs->a6 w M l' vs'->a6 w M (l++l') (vs++vs')
 | [],_,[],_,_,h=>by simpa using h
 | x::l,l',v::vs,vs',h,h'=>by simp only[List.cons_append,a6]at h ⊢;exact⟨h.1,ma l l' vs vs' h.2 h'⟩
 | [],_,_::_,_,h,_=>by simp[a6]at h
 | _::_,_,[],_,h,_=>by simp[a6]at h
theorem ra{w:World}{M:Nat->Prop}:∀(l:List AV) (vs:List Value),a6 w M l vs->∀(i:Nat) (z:AV),l[i]? = some z->∃v,vs[i]? = some v/\a8 w M z v
 | [],_,_,i,z,h=>by simp at h
 | x::l,v::vs,hr,0,z,h=>by simp only[a6]at hr;simp at h;subst h;exact⟨v,by simp,hr.1⟩
 | x::l,v::vs,hr,i+1,z,h=>by simp only[a6]at hr;simp at h;obtain⟨u,h1,h2⟩:=ra l vs hr.2 i z h;exact⟨u,by simpa using h1,h2⟩
 | _::_,[],hr,_,_,_=>by simp[a6]at hr
theorem mV{O:Tm}{S:St}{N:Nat}{a:Act}{w:World}(h:RT O S N a w)(x:Option Operand):pZ w S.dom (x.map (ev O)) (x.map a.eval):=by
 cases x with
 | none=>simp[pZ]
 | some x=>simp only[da,pZ];exact h.ev x
theorem xI(a:Act)(ps:Array (Nat×Operand)):(ps.map fun(x:Nat×Operand)=>(x.1,a.eval x.2))=(ps.toList.map fun p=>(p.1,a.eval p.2)).toArray:=by apply fz;simp
theorem uS{o:Oper}{a:Act}{t:TypeId}{ps:Array (Nat×Operand)}(ho:o.op=.build t ps){w:World}:(execOp a.eval o).run Tryz.prog w=((Instr.build t (ps.toList.map fun p=>(p.1,a.eval p.2)).toArray).run Tryz.prog w).andThen fun v w'=>.ok (.value v) w':=by
 rw[<-xI];unfold execOp;rw[ho];simp
theorem nT{o:Oper}{a:Act}{t:TypeId}{n:Nat}{ps:Array (Nat×Operand)}(ho:o.op=.buildSlice t n ps){w:World}:(execOp a.eval o).run Tryz.prog w=((Instr.buildSlice t n (ps.toList.map fun p=>(p.1,a.eval p.2)).toArray).run Tryz.prog w).andThen fun v w'=>.ok (.value v) w':=by
 rw[<-xI];unfold execOp;rw[ho];simp
def Next_(K:AV->St->Prop)(S:St)(a:Act)(d:Option Nat)(w:World)(next:Act->World->Prop):Prop:=∀z v w' S',K z S'->a8 w' S'.dom z v->dz w' S'->co S.dom S'.dom w w'->next (a.put d v) w'
theorem qS{f:Nat}{fi cs:Array Operand}{O:Tm}{S:St}{K:AV->Prop}(h:pX f (fi.toList.map (ev O)) (cs.toList.map (ev O)) K){N:Nat}{a:Act}{w:World}(hr:RT O S N a w):∃z,K z/\a8 w S.dom z (.func (.func f) (fi.map a.eval) (cs.map a.eval)):=by
 unfold pX at h;split at h
 ·rename_i hfi;have hfi:fi=#[]:=by apply fz;simpa using hfi
  refine⟨_,h,?_⟩;simp only[a8];exact⟨cs.toList.map a.eval,by rw[hfi];congr 1<;>apply fz<;>simp,mW hr _⟩
 ·rename_i x l hfi;have hcs:cs=#[]:=by apply fz;simpa using h.1
  refine⟨_,h.2,?_⟩;simp only[a8];exact⟨fi.toList.map a.eval,by rw[hcs];congr 1<;>apply fz<;>simp,by rw[<-hfi];exact mW hr _⟩
theorem kg{o:Oper}{O:Tm}{S:St}{K:AV->St->Prop}(h:vF o O S K){N:Nat}{a:Act}{w:World}(hr:RT O S N a w){next:Act->World->Prop}{Q:Exit->Act->World->Prop}
  (hn:Next_ K S a o.dst w next):o.wp Tryz.prog a w next Q:=by
 have pure_:∀(s:Sem Value),(execOp a.eval o=do let x <-s;pure (.value x))->(∃z u,K z S/\a8 w S.dom z u/\s.run Tryz.prog w=.ok u w)->o.wp Tryz.prog a w next Q:=by
  intro s he ⟨z,u,h1,h2,h3⟩;exact eW (by rw[he];simp[h3]) (hn z u w S h1 h2 hr.st (co.refl _ _))
 have goes_:∀(s:Sem Value),(execOp a.eval o=do let x <-s;pure (.value x))->zF s w S K->o.wp Tryz.prog a w next Q:=by
  intro s he ⟨z,u,w',S',h1,h2,h3,h4,h5⟩;exact eW (by rw[he];simp[h5]) (hn z u w' S' h1 h2 h3 h4)
 unfold vF at h;split at h
 ·rename_i x ho;exact eW (v:=a.eval x) (by simp[execOp,ho]) (hn _ _ w S h (hr.ev x) hr.st (co.refl _ _))
 ·rename_i x ho;exact eW (v:=a.eval x) (by simp[execOp,ho]) (hn _ _ w S h (hr.ev x) hr.st (co.refl _ _))
 ·rename_i c x y ho;have hc:=hr.ev c
  cases hcv:ev O c<;>rw[hcv]at h hc<;>try exact h.elim
  rename_i t;simp only[a8]at hc;refine eW (v:=if t then a.eval x else a.eval y) (by simp[execOp,ho,hc,asBool]) (hn _ _ w S h ?_ hr.st (co.refl _ _))
  cases t
  ·exact hr.ev y
  ·exact hr.ev x
 ·rename_i t ho;exact goes_ (Instr.alloc t true (.tuple #[])) (by simp[execOp,ho]) (zq h hr.st)
 ·rename_i t x ho;exact goes_ (Instr.box t (a.eval x)) (by simp[execOp,ho]) (CN h hr.st (hr.ev x))
 ·rename_i t ps ho;obtain⟨z,u,h1,h2,h3⟩:=qX h (oR hr ps.toList);refine eW (v:=u) ?_ (hn z u w S h1 h2 hr.st (co.refl _ _));rw[uS ho,h3];rfl
 ·rename_i t n ps ho;obtain⟨z,u,w',S',h1,h2,h3,h4,h5⟩:=qY h hr.st (oR hr ps.toList);refine eW (v:=u) ?_ (hn z u w' S' h1 h2 h3 h4);rw[nT ho,h5];rfl
 ·rename_i t x ho;exact pure_ (Instr.loadAt t (a.eval x)) (by simp[execOp,ho]) (oN h hr.st (hr.ev x))
 ·rename_i t x y ho;obtain⟨w',S',h1,h2,h3,h4⟩:=zm h hr.st (hr.ev x) (hr.ev y);exact BQ (by simp[execOp,ho,h4]) (hn _ _ w' S' h1 (by simp[a8]) h2 h3)
 ·rename_i x ho;have hx:=hr.ev x
  cases hxv:ev O x<;>rw[hxv]at h hx<;>try exact h.elim
  ·have hx':=hx;simp only[a8]at hx;exact eW (v:=a.eval x) (by simp[execOp,ho,hx]) (hn _ _ w S h hx' hr.st (co.refl _ _))
  ·have hx':=hx;simp only[a8]at hx;obtain⟨b,off,u,hx,_⟩:=hx;exact eW (v:=a.eval x) (by simp[execOp,ho,hx]) (hn _ _ w S h hx' hr.st (co.refl _ _))
 ·rename_i op t x y _ ho;have:=vJ (ty:=t) h (hr.ev x) (hr.ev y) x y;exact pure_ (do eqGuard op t x y (a.eval x) (a.eval y);binOp op t (a.eval x) (a.eval y)) (by simp[execOp,ho]) this
 ·rename_i op t x ho;exact pure_ (Op.unary op (a.eval x)) (by simp[execOp,ho]) (xX h (hr.ev x))
 ·rename_i s d x ho;exact pure_ (convert s d (a.eval x)) (by simp[execOp,ho]) (sL h (hr.ev x))
 ·rename_i f fi cs ho;obtain⟨z,h1,h2⟩:=qS h hr;exact eW (v:=.func (.func f) (fi.map a.eval) (cs.map a.eval)) (by simp[execOp,ho,Instr.makeFunc]) (hn _ _ w S h1 h2 hr.st (co.refl _ _))
 ·rename_i t x y ho;exact goes_ (Instr.makeSlice t (a.eval x) (a.eval y)) (by simp[execOp,ho]) (Bl h hr.st (hr.ev x) (hr.ev y))
 ·rename_i t x lo hi mx ho;exact pure_ (Instr.sliceAt t (a.eval x) (lo.map a.eval) (hi.map a.eval) (mx.map a.eval)) (by simp[execOp,ho]) (qR h (hr.ev x) (mV hr lo) (mV hr hi) (mV hr mx))
 ·rename_i t x f ho;exact pure_ (Instr.fieldAt t (a.eval x) f) (by simp[execOp,ho]) (qU h (hr.ev x))
 ·rename_i t x i ho;exact pure_ (Instr.indexAt t (a.eval x) (a.eval i)) (by simp[execOp,ho]) (qT h (hr.ev x) (hr.ev i))
 ·rename_i t x i ho;exact pure_ (Instr.index t (a.eval x) (a.eval i)) (by simp[execOp,ho]) (CK h (hr.ev x) (hr.ev i))
 ·rename_i x i ho;have hx:=hr.ev x
  cases hxv:ev O x<;>rw[hxv]at h hx<;>try exact h.elim
  rename_i l;simp only at h
  cases hl:l[i]? with
  | none=>rw[hl]at h;exact h.elim
  | some z =>
   rw[hl]at h;simp only[a8]at hx;obtain⟨vs,hx,hrl⟩:=hx;obtain⟨v,hv,hz⟩:=ra l vs hrl i z hl;exact eW (v:=v) (by simp[execOp,ho,Instr.extract,hx,hv]) (hn _ _ w S h hz hr.st (co.refl _ _))
 ·rename_i c ho;unfold qW at h;split at h
  ·rename_i f hf;have hfv:=hr.ev f
   cases hxv:ev O f<;>rw[hxv]at h hfv<;>try exact h.elim
   ·rename_i g l;simp only[a8]at hfv;obtain⟨vs,hfe,hrl⟩:=hfv;obtain⟨hg,hsp⟩:=h;have hrun:(execOp a.eval o).run Tryz.prog w=.ok (.enter g (c.args.map a.eval++vs.toArray)) w:=by
     simp[execOp,ho,resolve,hf,Deferred.ofValue,hfe,invoke,Gy hg]
    unfold Oper.wp;rw[hrun];have hargs:(c.args.map a.eval++vs.toArray)=(c.args.toList.map a.eval++vs).toArray:=by apply fz;simp
    rw[hargs];refine(hsp w _ hr.st (ma _ _ _ _ (mW hr _) hrl)).mono ?_;rintro e w' ⟨v,r,S',rfl,h1,h2,h3,h4⟩;exact hn r v w' S' h1 h2 h3 h4
   ·rename_i g l;simp only[a8]at hfv;obtain⟨vs,hfe,hrl⟩:=hfv;obtain⟨hg,hsp⟩:=h;have hrun:(execOp a.eval o).run Tryz.prog w=.ok (.enter g (vs.toArray++c.args.map a.eval)) w:=by
     simp[execOp,ho,resolve,hf,Deferred.ofValue,hfe,invoke,Gy hg]
    unfold Oper.wp;rw[hrun];have hargs:(vs.toArray++c.args.map a.eval)=(vs++c.args.toList.map a.eval).toArray:=by apply fz;simp
    rw[hargs];refine(hsp w _ hr.st (ma _ _ _ _ hrl (mW hr _))).mono ?_;rintro e w' ⟨v,r,S',rfl,h1,h2,h3,h4⟩;exact hn r v w' S' h1 h2 h3 h4
  ·rename_i hc;split at h
   ·rename_i x t hx ht;have hxa:c.args=#[x]:=by apply fz;simpa using hx
    have hta:c.argTypes=#[t]:=by apply fz;simpa using ht
    exact pure_ (Builtin.len_ #[t] o.type #[a.eval x]) (by simp[execOp,ho,resolve,hc,invoke,builtin,hxa,hta]) (vH h (hr.ev x))
   ·exact h.elim
  ·rename_i hc;split at h
   ·rename_i x y hx;have hxa:c.args=#[x,y]:=by apply fz;simpa using hx
    exact pure_ (Builtin.max_ c.argTypes o.type #[a.eval x,a.eval y]) (by simp[execOp,ho,resolve,hc,invoke,builtin,hxa]) (CJ h (hr.ev x) (hr.ev y) _ _)
   ·exact h.elim
  ·rename_i hc;split at h
   ·rename_i s x t t' hx ht;have hxa:c.args=#[s,x]:=by apply fz;simpa using hx
    have hta:c.argTypes=#[t,t']:=by apply fz;simpa using ht
    split at h
    ·rename_i h3;subst h3;exact goes_ (Builtin.append_ #[t,3] o.type #[a.eval s,a.eval x]) (by simp[execOp,ho,resolve,hc,invoke,builtin,hxa,hta]) (vK h hr.st (hr.ev s) (hr.ev x))
    ·exact goes_ (Builtin.append_ #[t,t'] o.type #[a.eval s,a.eval x]) (by simp[execOp,ho,resolve,hc,invoke,builtin,hxa,hta]) (wI h hr.st (hr.ev s) (hr.ev x))
   ·exact h.elim
  ·rename_i hc;split at h
   ·rename_i s x t t' hx ht;have hxa:c.args=#[s,x]:=by apply fz;simpa using hx
    have hta:c.argTypes=#[t,t']:=by apply fz;simpa using ht
    exact goes_ (Builtin.copy_ #[t,t'] o.type #[a.eval s,a.eval x]) (by simp[execOp,ho,resolve,hc,invoke,builtin,hxa,hta]) (Bm h hr.st (hr.ev s) (hr.ev x))
   ·exact h.elim
  ·exact h.elim
 ·exact h.elim
def zT(ops:Array Oper)(O:Tm)(j:Nat):AV:=match (ops[j]?).bind (·.dst)with
 | some d=>O d
 | ac=>.any
def sW(ops:Array Oper):List Oper->Tm->St->(Tm->St->Prop)->Prop
 | [],O,S,K=>K O S
 | o::l,O,S,K=>(match o.guard with
  | ac=>vF o O S (fun z S'=>sW ops l (O.put o.dst z) S' K)
  | some (j,want)=>(match zT ops O j with
   | .bool b=>(b=want->vF o O S (fun z S'=>sW ops l (O.put o.dst z) S' K))/\(b=!want->sW ops l (O.put o.dst .any) S K)
   | _=>False))
def pB(N:Nat)(l:List Oper):Bool:=l.all fun o=>match o.dst with
 | some d=>decide (d<N)
 | ac=>true
theorem Cp{N:Nat}{o:Oper}{l:List Oper}(h:pB N (o::l)=true):(∀k,o.dst=some k->k<N)/\pB N l=true:=by
 simp only[pB,List.all_cons,au]at h;refine⟨fun k hk=>?_,h.2⟩;have h1:=h.1;rw[hk]at h1;simpa using h1
theorem wS{ops:Array Oper}{O:Tm}{S:St}{N:Nat}{a:Act}{w:World}(hr:RT O S N a w){j:Nat}{b:Bool}(h:zT ops O j=.bool b):yielded ops a.tmps j=some b:=by
 unfold zT at h
 cases hd:(ops[j]?).bind (·.dst)with
 | none=>rw[hd]at h;cases h
 | some d =>
  rw[hd]at h;have h1:=hr.tm d;simp only at h;rw[h]at h1;simp only[a8]at h1;unfold yielded;rw[hd];simp only[cQ]
  cases ht:a.tmps[d]? with
  | none=>simp[aF,ht,undef]at h1
  | some v =>
   have:v=.bool b:=by simpa [aF,ht]using h1
   subst this;rfl
theorem rV{ops:Array Oper}{N:Nat}{Q:Exit->Act->World->Prop}{K:Tm->St->Prop}:∀(l:List Oper) {O:Tm} {S:St} {a:Act} {w:World},sW ops l O S K->RT O S N a w->pB N l=true ->
  (∀O' S' a' w',K O' S'->RT O' S' N a' w'->co S.dom S'.dom w w'->Q .normal a' w')->wpList Tryz.prog ops Q l a w
 | [],O,S,a,w,h,hr,_,hq=>hq O S a w h hr (co.refl _ _)
 | o::l,O,S,a,w,h,hr,hd,hq=>by
  obtain⟨hd1,hd2⟩:=Cp hd;have run:vF o O S (fun z S'=>sW ops l (O.put o.dst z) S' K)->o.wp Tryz.prog a w (wpList Tryz.prog ops Q l) Q:=fun h1 =>
   kg h1 hr (fun z v w' S' hz hv hs hg=>rV l hz (hr.put hg hs hd1 hv) hd2 (fun O' S'' a' w'' k1 k2 k3=>hq O' S'' a' w'' k1 k2 (hg.trans k3)))
  unfold sW at h;unfold wpList
  cases hgd:o.guard with
  | none =>
   rw[hgd]at h;rw[if_pos (by simp[Region.wanted,hgd])]
   exact bH (run h)
  | some p =>
   obtain⟨j,want⟩:=p;rw[hgd]at h;simp only at h
   cases hy:zT ops O j<;>rw[hy]at h<;>try exact h.elim
   rename_i b;have hyv:=wS hr hy;by_cases hb:b=want
   ·rw[if_pos (by simp[Region.wanted,hgd,hyv,hb])]
    exact bH (run (h.1 hb))
   ·rw[if_neg (by simp[Region.wanted,hgd,hyv,hb])]
    have hb2:b=!want:=by cases b<;>cases want<;>simp_all
    exact rV l (h.2 hb2) (hr.put (co.refl _ _) hr.st hd1 (by simp[a8])) hd2 hq
theorem pj{o:Oper}{O O':Tm}{S:St}{K:AV->St->Prop}(he:∀x,x∈o.op.operands.toList->ev O x=ev O' x)(h:vF o O S K):vF o O' S K:=by
 have hm1:∀l:List Operand,(∀x∈l,ev O x=ev O' x)->l.map (ev O)=l.map (ev O'):=fun l hl=>nU hl;unfold vF at h ⊢;split at h
 ·rename_i x ho;rw[ho]at he;simp only[Op.operands]at he;rw[<-he x (by simp)];exact h
 ·rename_i x ho;rw[ho]at he;simp only[Op.operands]at he;rw[<-he x (by simp)];exact h
 ·rename_i c x y ho;rw[ho]at he;simp only[Op.operands]at he;rw[<-he c (by simp),<-he x (by simp),<-he y (by simp)];exact h
 ·rename_i t ho;exact h
 ·rename_i t x ho;rw[ho]at he;simp only[Op.operands]at he;rw[<-he x (by simp)];exact h
 ·rename_i t ps ho;rw[ho]at he;simp only[Op.operands]at he;have:(ps.toList.map fun p=>(p.1,ev O p.2))=ps.toList.map fun p=>(p.1,ev O' p.2):=nU fun p hp=>by rw[he p.2 (by simp;exact⟨p.1,by simpa using hp⟩)]
  rw[<-this];exact h
 ·rename_i t n ps ho;rw[ho]at he;simp only[Op.operands]at he;have:(ps.toList.map fun p=>(p.1,ev O p.2))=ps.toList.map fun p=>(p.1,ev O' p.2):=nU fun p hp=>by rw[he p.2 (by simp;exact⟨p.1,by simpa using hp⟩)]
  rw[<-this];exact h
 ·rename_i t x ho;rw[ho]at he;simp only[Op.operands]at he;rw[<-he x (by simp)];exact h
 ·rename_i t x y ho;rw[ho]at he;simp only[Op.operands]at he;rw[<-he x (by simp),<-he y (by simp)];exact h
 ·rename_i x ho;rw[ho]at he;simp only[Op.operands]at he;rw[<-he x (by simp)];exact h
 ·rename_i op t x y _ ho;rw[ho]at he;simp only[Op.operands]at he;rw[<-he x (by simp),<-he y (by simp)];exact h
 ·rename_i op t x ho;rw[ho]at he;simp only[Op.operands]at he;rw[<-he x (by simp)];exact h
 ·rename_i s d x ho;rw[ho]at he;simp only[Op.operands]at he;rw[<-he x (by simp)];exact h
 ·rename_i f fi cs ho;rw[ho]at he;simp only[Op.operands]at he;rw[<-hm1 cs.toList (fun x hx=>he x (by simp;exact bD (by simpa using hx))),<-hm1 fi.toList (fun x hx=>he x (by simp;exact bH (by simpa using hx)))];exact h
 ·rename_i t x y ho;rw[ho]at he;simp only[Op.operands]at he;rw[<-he x (by simp),<-he y (by simp)];exact h
 ·rename_i t x lo hi mx ho;rw[ho]at he;simp only[Op.operands]at he;have ho2:∀y:Option Operand,(∀z,y=some z->ev O z=ev O' z)->y.map (ev O)=y.map (ev O'):=fun y hy=>by cases y<;>simp[hy]
  rw[<-he x (by simp),<-ho2 lo (fun z hz=>he z (by subst hz;simp)),<-ho2 hi (fun z hz=>he z (by subst hz;simp)),<-ho2 mx (fun z hz=>he z (by subst hz;simp))];exact h
 ·rename_i t x f ho;rw[ho]at he;simp only[Op.operands]at he;rw[<-he x (by simp)];exact h
 ·rename_i t x i ho;rw[ho]at he;simp only[Op.operands]at he;rw[<-he x (by simp),<-he i (by simp)];exact h
 ·rename_i t x i ho;rw[ho]at he;simp only[Op.operands]at he;rw[<-he x (by simp),<-he i (by simp)];exact h
 ·rename_i x i ho;rw[ho]at he;simp only[Op.operands]at he;rw[<-he x (by simp)];exact h
 ·rename_i c ho;rw[ho]at he;simp only[Op.operands,Call.operands]at he;have ha:∀x∈c.args.toList,ev O x=ev O' x:=fun x hx=>he x (by simp;exact bD (by simpa using hx))
  unfold qW at h ⊢;split at h
  ·rename_i f hf;rw[hf]at he;simp only at he;rw[<-he f (by simp),<-hm1 _ ha];exact h
  ·rename_i hc;split at h
   ·rename_i x t hx ht;rw[<-ha x (by rw[hx];simp)];exact h
   ·exact h.elim
  ·rename_i hc;split at h
   ·rename_i x y hx;rw[<-ha x (by rw[hx];simp),<-ha y (by rw[hx];simp)];exact h
   ·exact h.elim
  ·rename_i hc;split at h
   ·rename_i s x t t' hx ht;rw[<-ha x (by rw[hx];simp),<-ha s (by rw[hx];simp)];exact h
   ·exact h.elim
  ·rename_i hc;split at h
   ·rename_i s x t t' hx ht;rw[<-ha x (by rw[hx];simp),<-ha s (by rw[hx];simp)];exact h
   ·exact h.elim
  ·exact h.elim
 ·exact h.elim
def kf:TypeId->Option dn
 | 50=>some ⟨50,2,1,fun _=>.big 0⟩
 | 52=>some ⟨52,1,1,fun _=>.nil⟩
 | 167=>some ⟨167,2,2,fun _=>.big 0⟩
 | 218=>some ⟨218,1,2,fun j=>if j=0 then .nil else .int .i64 0⟩
 | _=>ac
theorem xV{t:TypeId}{X:dn}(h:kf t=some X):∃zc:Array Value,X.ty=t/\(∀w,(Instr.alloc t true (.tuple #[])).run Tryz.prog w=.ok (.pointer (some ⟨w.heap.size,0,ac⟩)) (w.alloc (.cells zc t))) /\
  X.es*X.n<=zc.size/\(∀w M j,j<X.n->∃u,reads zc (X.es*j) X.es u/\a8 w M (X.g j) u)/\∀(k:Nat) (y:Value),zc[k]? = some y->jQ y:=by
 have key:∀(z':Value) (s b:Nat),kA Tryz.prog t=some (z',s,b)->∃i,Tryz.prog.info? t=some i/\i.zero=some z':=by
  intro z' s b hc;unfold kA at hc
  cases hi:Tryz.prog.info? t with
  | none=>rw[hi]at hc;simp at hc
  | some i =>
   rw[hi]at hc;simp only[cQ,ck,Prod.mk.injEq]at hc;obtain⟨z2,h1,h2,h3,h4⟩:=hc;exact⟨i,rfl,by rw[h1,h2]⟩
 have fin:∀(l:List AV) (vs:List Value) (z:Value) (s b:Nat),kA Tryz.prog t=some (z,s,b)->z.cells=(vs.flatMap (fun u=>u.cells.toList)).toArray->(∀w M,a6 w M l vs)->(∀y∈l,du X.es y)->X.ty=t->X.n=l.length->(∀j,j<l.length->X.g j=l.getD j .any) ->
   ∃zc:Array Value,X.ty=t/\(∀w,(Instr.alloc t true (.tuple #[])).run Tryz.prog w=.ok (.pointer (some ⟨w.heap.size,0,ac⟩)) (w.alloc (.cells zc t))) /\
   X.es*X.n<=zc.size/\(∀w M j,j<X.n->∃u,reads zc (X.es*j) X.es u/\a8 w M (X.g j) u)/\∀(k:Nat) (y:Value),zc[k]? = some y->jQ y:=by
  intro l vs z s b hz hv hr hst ht hn hg;obtain⟨i,hi,hiz⟩:=key z s b hz;refine⟨z.cells,ht,fun w=>xA hi hiz w,?_,fun w M j hj=>?_,fun k y hy=>?_⟩
  ·obtain⟨_,l2,_,_⟩:=fQ l vs (hr default (fun _=>False)) hst;rw[hv,List.size_toArray,l2,hn];exact Nat.le_refl _
  ·obtain⟨_,_,_,l4⟩:=fQ l vs (hr w M) hst;rw[hn]at hj;obtain⟨u,h1,h2⟩:=l4 j hj;refine⟨u,?_,by rw[hg j hj];exact h1⟩
   have:=h2 z.cells 0 (fun q _=>by rw[hv];simp)
   simpa using this
  ·obtain⟨_,_,l3,_⟩:=fQ l vs (hr default (fun _=>False)) hst;rw[hv,List.getElem?_toArray]at hy;exact(l3 y (cq hy)).2
 have zb:∀w M,a8 w M (.big 0) (.agg #[.bool false,.slice ac 0 0]):=fun w M=>by simp only[a8];exact dL.zero w
 unfold kf at h;split at h
 ·cases h
  exact fin [.big 0] [.agg #[.bool false,.slice ac 0 0]] (.agg #[.bool false,.slice ac 0 0]) 2 32 (by kernel_rfl) rfl (fun w M=>by simp only[a6];exact⟨zb w M,trivial⟩) (fun y hy=>by simp at hy;subst hy;simp[du]) rfl rfl (fun j hj=>by simp at hj;subst hj;rfl)
 ·cases h
  exact fin [.nil] [.slice ac 0 0] (.slice ac 0 0) 1 24 (by kernel_rfl) rfl (fun w M=>by simp[a6,a8]) (fun y hy=>by simp at hy;subst hy;simp[du]) rfl rfl (fun j hj=>by simp at hj;subst hj;rfl)
 ·cases h
  exact fin (bL 2 (.big 0)) (bL 2 (.agg #[.bool false,.slice ac 0 0])) (.agg #[.bool false,.slice ac 0 0,.bool false,.slice ac 0 0]) 4 64 (by kernel_rfl) rfl (fun w M=>iL (zb w M) 2) (fun y hy=>by rw[List.eq_of_mem_replicate hy];simp[du]) rfl rfl
   (fun j hj=>(uQ (by rw[List.length_replicate]at hj;exact hj) _ _).symm)
 ·cases h
  exact fin [.nil,.int .i64 0] [.slice ac 0 0,.int .i64 0] (.agg #[.slice ac 0 0,.int .i64 0]) 2 32 (by kernel_rfl) rfl (fun w M=>by simp[a6,a8]) (fun y hy=>by simp at hy;rcases hy with rfl|rfl<;>simp[du]) rfl rfl
   (fun j hj=>by match j with
    | 0=>rfl
    | 1=>rfl
    | j+2=>exact absurd hj (by simp only[cr,List.length_nil];omega))
 ·cases h
mutual
def nY:AV->Bool
 | .int ..=>true
 | .bool _=>true
 | .big _=>true
 | .nil=>true
 | .sl ..=>true
 | .ptr ..=>true
 | .mag _=>true
 | .fp ..=>true
 | .bset _=>true
 | .any=>true
 | .nfn=>true
 | .mfn _ l=>wu l
 | .tup l=>wu l
 | .agg l=>wu l
 | .fn _ l=>wu l
 | .lst ..=>false
 | .pat ..=>false
def wu:List AV->Bool
 | []=>true
 | x::l=>nY x&&wu l
end
mutual
theorem nr{w:World}{M M':Nat->Prop}:∀{x:AV} {v:Value},nY x=true->a8 w M x v->a8 w M' x v
 | .int ..,v,_,hr=>by simpa [a8]using hr
 | .bool _,v,_,hr=>by simpa [a8]using hr
 | .big _,v,_,hr=>by simpa [a8]using hr
 | .nil,v,_,hr=>by simpa [a8]using hr
 | .sl ..,v,_,hr=>by simpa [a8]using hr
 | .ptr ..,v,_,hr=>by simpa [a8]using hr
 | .mag _,v,_,hr=>by simpa [a8]using hr
 | .fp ..,v,_,hr=>by simpa [a8]using hr
 | .bset _,v,_,hr=>by simpa [a8]using hr
 | .any,v,_,hr=>by simp[a8]
 | .nfn,v,_,hr=>by simpa [a8]using hr
 | .mfn f l,v,h,hr=>by
  simp only[nY]at h;simp only[a8]at hr ⊢;obtain⟨vs,h1,h2⟩:=hr;exact⟨vs,h1,oC h h2⟩
 | .tup l,v,h,hr=>by
  simp only[nY]at h;simp only[a8]at hr ⊢;obtain⟨vs,h1,h2⟩:=hr;exact⟨vs,h1,oC h h2⟩
 | .agg l,v,h,hr=>by
  simp only[nY]at h;simp only[a8]at hr ⊢;obtain⟨vs,h1,h2⟩:=hr;exact⟨vs,h1,oC h h2⟩
 | .fn f l,v,h,hr=>by
  simp only[nY]at h;simp only[a8]at hr ⊢;obtain⟨vs,h1,h2⟩:=hr;exact⟨vs,h1,oC h h2⟩
 | .lst ..,v,h,_=>by simp[nY]at h
 | .pat ..,v,h,_=>by simp[nY]at h
theorem oC{w:World}{M M':Nat->Prop}:∀{l:List AV} {vs:List Value},wu l=true->a6 w M l vs->a6 w M' l vs
 | [],[],_,_=>by simp[a6]
 | x::l,v::vs,h,h2=>by
  simp only[wu,au]at h;simp only[a6]at h2 ⊢;exact⟨nr h.1 h2.1,oC h.2 h2.2⟩
 | [],_::_,_,h2=>by simp[a6]at h2
 | _::_,[],_,h2=>by simp[a6]at h2
end
def oS:Nat->Prop:=fun _=>False
def Ax:Op->Bool
 | .move _=>true
 | .assign _=>true
 | .pick ..=>true
 | .build ..=>true
 | .load ..=>true
 | .nilCheck _=>true
 | .binOp ..=>true
 | .unOp ..=>true
 | .convert ..=>true
 | .makeFunc ..=>true
 | .slice ..=>true
 | .fieldAddr ..=>true
 | .indexAddr ..=>true
 | .extract ..=>true
 | .call { callee:=.builtin .len,.. }=>true
 | _=>false
def rb(f:Nat)(args:List AV)(S:St)(z:AV):Prop :=
 ∀(w:World) (vs:List Value),dz w S->a6 w S.dom args vs->Calls Tryz.prog f vs.toArray w (fun e w'=>∃v,e=.returned v/\a8 w' S.dom z v/\co oS oS w w')
def wa(o:Oper)(O:Tm)(S:St)(z:AV):Prop:=(Ax o.op=true/\vF o O S (fun z' S'=>z'=z/\S'=S)) ∨
 (match o.op with
 | .call c=>(match c.callee with
  | .value f=>(match ev O f with
   | .fn f l=>((11<=f/\f<270)/\f≠252/\f≠253)/\rb f (c.args.toList.map (ev O)++l) S z
   | _=>False)
  | _=>False)
 | .buildSlice t n ps=>dI t n (ps.toList.map fun p=>(p.1,ev O p.2)) z
 | _=>False)
theorem G3{o:Oper}(hq:Ax o.op=true){O:Tm}{S:St}{K:AV->St->Prop}(h:vF o O S K){N:Nat}{a:Act}{w:World}(hr:RT O S N a w) :
  ∃z v,K z S/\a8 w S.dom z v/\(execOp a.eval o).run Tryz.prog w=.ok (.value v) w:=by
 have pure_:∀(s:Sem Value),(execOp a.eval o=do let x <-s;pure (.value x))->(∃z u,K z S/\a8 w S.dom z u/\s.run Tryz.prog w=.ok u w)->∃z v,K z S/\a8 w S.dom z v/\(execOp a.eval o).run Tryz.prog w=.ok (.value v) w:=by
  intro s he ⟨z,u,h1,h2,h3⟩;exact⟨z,u,h1,h2,by rw[he];simp[h3]⟩
 unfold vF at h;split at h
 ·rename_i x ho;exact⟨_,_,h,hr.ev x,by simp[execOp,ho]⟩
 ·rename_i x ho;exact⟨_,_,h,hr.ev x,by simp[execOp,ho]⟩
 ·rename_i c x y ho;have hc:=hr.ev c
  cases hcv:ev O c<;>rw[hcv]at h hc<;>try exact h.elim
  rename_i t;simp only[a8]at hc;refine⟨_,if t then a.eval x else a.eval y,h,?_,by simp[execOp,ho,hc,asBool]⟩
  cases t
  ·exact hr.ev y
  ·exact hr.ev x
 ·rename_i t ho;rw[ho]at hq;simp[Ax]at hq
 ·rename_i t x ho;rw[ho]at hq;simp[Ax]at hq
 ·rename_i t ps ho;obtain⟨z,u,h1,h2,h3⟩:=qX h (oR hr ps.toList);exact⟨z,u,h1,h2,by rw[uS ho,h3];rfl⟩
 ·rename_i t n ps ho;rw[ho]at hq;simp[Ax]at hq
 ·rename_i t x ho;exact pure_ (Instr.loadAt t (a.eval x)) (by simp[execOp,ho]) (oN h hr.st (hr.ev x))
 ·rename_i t x y ho;rw[ho]at hq;simp[Ax]at hq
 ·rename_i x ho;have hx:=hr.ev x
  cases hxv:ev O x<;>rw[hxv]at h hx<;>try exact h.elim
  ·have hx':=hx;simp only[a8]at hx;exact⟨_,a.eval x,h,hx',by simp[execOp,ho,hx]⟩
  ·have hx':=hx;simp only[a8]at hx;obtain⟨b,off,u,hx,_⟩:=hx;exact⟨_,a.eval x,h,hx',by simp[execOp,ho,hx]⟩
 ·rename_i op t x y _ ho;have:=vJ (ty:=t) h (hr.ev x) (hr.ev y) x y;exact pure_ (do eqGuard op t x y (a.eval x) (a.eval y);binOp op t (a.eval x) (a.eval y)) (by simp[execOp,ho]) this
 ·rename_i op t x ho;exact pure_ (Op.unary op (a.eval x)) (by simp[execOp,ho]) (xX h (hr.ev x))
 ·rename_i s d x ho;exact pure_ (convert s d (a.eval x)) (by simp[execOp,ho]) (sL h (hr.ev x))
 ·rename_i f fi cs ho;obtain⟨z,h1,h2⟩:=qS h hr;exact⟨_,.func (.func f) (fi.map a.eval) (cs.map a.eval),h1,h2,by simp[execOp,ho,Instr.makeFunc]⟩
 ·rename_i t x y ho;rw[ho]at hq;simp[Ax]at hq
 ·rename_i t x lo hi mx ho;exact pure_ (Instr.sliceAt t (a.eval x) (lo.map a.eval) (hi.map a.eval) (mx.map a.eval)) (by simp[execOp,ho]) (qR h (hr.ev x) (mV hr lo) (mV hr hi) (mV hr mx))
 ·rename_i t x f ho;exact pure_ (Instr.fieldAt t (a.eval x) f) (by simp[execOp,ho]) (qU h (hr.ev x))
 ·rename_i t x i ho;exact pure_ (Instr.indexAt t (a.eval x) (a.eval i)) (by simp[execOp,ho]) (qT h (hr.ev x) (hr.ev i))
 ·rename_i t x i ho;rw[ho]at hq;simp[Ax]at hq
 ·rename_i x i ho;have hx:=hr.ev x
  cases hxv:ev O x<;>rw[hxv]at h hx<;>try exact h.elim
  rename_i l;simp only at h
  cases hl:l[i]? with
  | none=>rw[hl]at h;exact h.elim
  | some z =>
   rw[hl]at h;simp only[a8]at hx;obtain⟨vs,hx,hrl⟩:=hx;obtain⟨v,hv,hz⟩:=ra l vs hrl i z hl;exact⟨_,v,h,hz,by simp[execOp,ho,Instr.extract,hx,hv]⟩
 ·rename_i c ho;unfold qW at h;split at h
  ·rename_i f hf;obtain⟨ce,ar,at_⟩:=c;simp only at hf;subst hf;rw[ho]at hq;simp[Ax]at hq
  ·rename_i hc;split at h
   ·rename_i x t hx ht;have hxa:c.args=#[x]:=by apply fz;simpa using hx
    have hta:c.argTypes=#[t]:=by apply fz;simpa using ht
    exact pure_ (Builtin.len_ #[t] o.type #[a.eval x]) (by simp[execOp,ho,resolve,hc,invoke,builtin,hxa,hta]) (vH h (hr.ev x))
   ·exact h.elim
  ·rename_i hf;obtain⟨ce,ar,at_⟩:=c;simp only at hf;subst hf;rw[ho]at hq;simp[Ax]at hq
  ·rename_i hf;obtain⟨ce,ar,at_⟩:=c;simp only at hf;subst hf;rw[ho]at hq;simp[Ax]at hq
  ·rename_i hf;obtain⟨ce,ar,at_⟩:=c;simp only at hf;subst hf;rw[ho]at hq;simp[Ax]at hq
  ·exact h.elim
 ·exact h.elim
theorem lw{o:Oper}{O:Tm}{S:St}{z:AV}(h:wa o O S z){N:Nat}{a:Act}{w:World}(hr:RT O S N a w){next:Act->World->Prop}{Q:Exit->Act->World->Prop}
  (hn:∀v w',a8 w' S.dom z v->co oS oS w w'->next (a.put o.dst v) w'):o.wp Tryz.prog a w next Q:=by
 rcases h with⟨hq,h⟩|h
 ·obtain⟨z',v,⟨rfl,_⟩,h2,h3⟩:=G3 hq h hr;exact eW h3 (hn v w h2 (co.refl _ _))
 ·split at h
  ·rename_i c ho;split at h
   ·rename_i f hf;have hfv:=hr.ev f
    cases hxv:ev O f<;>rw[hxv]at h hfv<;>try exact h.elim
    rename_i g l;simp only[a8]at hfv;obtain⟨vs,hfe,hrl⟩:=hfv;obtain⟨hg,hsp⟩:=h;have hrun:(execOp a.eval o).run Tryz.prog w=.ok (.enter g (c.args.map a.eval++vs.toArray)) w:=by
     simp[execOp,ho,resolve,hf,Deferred.ofValue,hfe,invoke,Gy hg]
    unfold Oper.wp;rw[hrun];have hargs:(c.args.map a.eval++vs.toArray)=(c.args.toList.map a.eval++vs).toArray:=by apply fz;simp
    rw[hargs];refine(hsp w _ hr.st (ma _ _ _ _ (mW hr _) hrl)).mono ?_;rintro e w' ⟨v,rfl,h1,h2⟩;exact hn v w' h1 h2
   ·exact h.elim
  ·rename_i t n ps ho;obtain⟨v,w',h1,h2,h3⟩:=qA h hr.st (oR hr ps.toList);exact eW (by rw[nT ho,h1];rfl) (hn v w' h2 h3)
  ·exact h.elim
theorem ko{o:Oper}{O O':Tm}{S:St}{z:AV}(he:∀x,x∈o.op.operands.toList->ev O x=ev O' x)(h:wa o O S z):wa o O' S z:=by
 rcases h with⟨hq,h⟩|h
 ·exact bH ⟨hq,pj he h⟩
 ·refine bD ?_;split at h
  ·rename_i c ho;rw[ho]at he;simp only[Op.operands,Call.operands]at he;split at h
   ·rename_i f hf;rw[hf]at he;simp only at he;have ha:c.args.toList.map (ev O)=c.args.toList.map (ev O'):=nU fun x hx=>he x (by simp;exact bD (by simpa using hx))
    rw[<-he f (by simp),<-ha];exact h
   ·exact h.elim
  ·rename_i t n ps ho;rw[ho]at he;have ha:(ps.toList.map fun p=>(p.1,ev O p.2))=ps.toList.map fun p=>(p.1,ev O' p.2):=nU fun p hp=>by
    rw[he p.2 (by simp only[Op.operands];simp;exact⟨p.1,by simpa using hp⟩)]
   rw[<-ha];exact h
  ·exact h.elim
def zh:List Oper->Tm->St->List (Nat×dn)->(Tm->List (Nat×dn)->Prop)->Prop
 | [],O,_,pend,K=>K O pend
 | o::l,O,S,pend,K=>(match o.op,o.dst with
  | .alloc t,some d=>(match kf t with
   | some X=>zh l (O.put (some d) .any) S (pend++[(d,X)]) K
   | ac=>False)
  | _,_=>∃z,wa o O S z/\zh l (O.put o.dst z) S pend K)
def lM:List (Nat×dn)->Tm->St->(Tm->St->Prop)->Prop
 | [],O,S,K=>K O S
 | (d,X)::r,O,S,K=>∀b,S b=ac->lM r (O.put (some d) (.ptr X.es b 0)) (S.upd b X) K
def qG(ds:List Nat)(O:Tm):Tm:=fun t=>if ds.contains t&&!nY (O t)then .any else O t
def ky(l:List Oper):List Nat:=l.filterMap (·.dst)
def jx(o:Oper):List Nat:=o.op.operands.toList.filterMap fun
 | .tmp t=>some t
 | _=>ac
def aft(o:Oper):List Nat:=(o.after.toList.filter (Region.binds .any)).map (·.on)
def nS(ops:Array Oper):Nat->Nat->Nat->Bool
 | 0,_,_=>false
 | f+1,j,i=>(match ops[i]? with
  | some o=>(aft o).contains j||(aft o).any (fun k=>Nat.ble j k&&nS ops f j k)
  | ac=>false)
def uV(ops:Array Oper)(q:Nat):Bool :=
 let l:=ops.toList
 l.all (fun o=>o.guard.isNone) &&
 l.zipIdx.all (fun p=>(aft p.1).all (fun k=>decide (k<p.2))) &&
 (l.take q).zipIdx.all (fun p=>(l.take q).zipIdx.all (fun r=>match r.1.dst with
  | some t=>!(jx p.1).contains t||(decide (r.2<p.2)&&(aft p.1).contains r.2)
  | ac=>true)) &&
 (l.take q).zipIdx.all (fun p=>(l.take q).zipIdx.all (fun r=>decide (p.2=r.2)||p.1.dst.isNone||p.1.dst != r.1.dst)) &&
 (l.zipIdx.drop q).all (fun p=>(cf p.2).all (fun j=>(aft p.1).contains j||nS ops 12 j p.2)) &&
 decide (q<=l.length)
def awD(ops:Array Oper)(O:Tm)(S:St)(K:Tm->St->Prop):Prop:=∃q,uV ops q=true /\
 zh (ops.toList.take q) O S [] (fun O' pend=>if pend.isEmpty then sW ops (ops.toList.drop q) O' S K else
  lM pend (qG (ky (ops.toList.take q)) O') S (fun O S=>sW ops (ops.toList.drop q) O S K))
theorem mS:∀(l:List Oper) (O:Tm) (S:St) (pend:List (Nat×dn)) (K:Tm->List (Nat×dn)->Prop),zh l O S pend K ->
  ∃(Os:Nat->Tm) (al:Nat->Option dn),Os 0=O/\K (Os l.length) (pend++(cf l.length).filterMap (fun i=>(al i).bind fun X=>(l[i]?).bind fun o=>o.dst.map fun d=>(d,X))) /\
   ∀i o,l[i]? = some o->(∃t d X,o.op=.alloc t/\o.dst=some d/\kf t=some X/\al i=some X/\Os (i+1)=(Os i).put (some d) .any) ∨
    (al i=ac/\∃z,wa o (Os i) S z/\Os (i+1)=(Os i).put o.dst z)
 | [],O,S,pend,K,h=>⟨fun _=>O,fun _=>ac,rfl,by simpa [zh]using h,fun i o ho=>by simp at ho⟩
 | o::l,O,S,pend,K,h=>by
  have glue:∀(x:Option dn) (O1:Tm) (pend1:List (Nat×dn)),(pend1=pend++(x.bind fun X=>o.dst.map fun d=>(d,X)).toList)->zh l O1 S pend1 K ->
    ((∃t d X,o.op=.alloc t/\o.dst=some d/\kf t=some X/\x=some X/\O1=O.put (some d) .any)∨(x=ac/\∃z,wa o O S z/\O1=O.put o.dst z)) ->
    ∃(Os:Nat->Tm) (al:Nat->Option dn),Os 0=O/\K (Os (o::l).length) (pend++(cf (o::l).length).filterMap (fun i=>(al i).bind fun X=>((o::l)[i]?).bind fun o=>o.dst.map fun d=>(d,X))) /\
     ∀i o',(o::l)[i]? = some o'->(∃t d X,o'.op=.alloc t/\o'.dst=some d/\kf t=some X/\al i=some X/\Os (i+1)=(Os i).put (some d) .any) ∨
      (al i=ac/\∃z,wa o' (Os i) S z/\Os (i+1)=(Os i).put o'.dst z):=by
   intro x O1 pend1 hp h1 hx;obtain⟨Os,al,e0,hK,hi⟩:=mS l O1 S pend1 K h1;refine⟨fun i=>match i with|0=>O|i+1=>Os i,fun i=>match i with|0=>x|i+1=>al i,rfl,?_,fun i o' ho=>?_⟩
   ·simp only[cr];rw[hp]at hK;rw[List.range_succ_eq_map,List.filterMap_cons,List.filterMap_map];have e2:(fun i=>((al i).bind fun X=>(l[i]?).bind fun o=>o.dst.map fun d=>(d,X)))=((fun i=>(match i with|0=>x|i+1=>al i:Option dn).bind fun X=>((o::l)[i]?).bind fun o=>o.dst.map fun d=>(d,X))∘Nat.succ):=by
     funext i;simp
    rw[<-e2]
    cases hxx:(x.bind fun X=>o.dst.map fun d=>(d,X))with
    | none=>rw[hxx]at hK;simp only[Option.toList_none,List.append_nil]at hK;simp only[cE,cQ];rw[hxx];exact hK
    | some y=>rw[hxx]at hK;simp only[Option.toList_some,List.append_assoc,List.singleton_append]at hK;simp only[cE,cQ];rw[hxx];exact hK
   ·cases i with
    | zero =>
     simp at ho;subst ho;simp only[e0];exact hx
    | succ i =>
     simp only[List.getElem?_cons_succ]at ho;exact hi i o' ho
  unfold zh at h;split at h
  ·rename_i t d hop hd
   cases hX:kf t with
   | none=>rw[hX]at h;exact h.elim
   | some X =>
    rw[hX]at h;exact glue (some X) _ _ (by rw[hd];rfl) h (bH ⟨t,d,X,hop,hd,hX,rfl,rfl⟩)
  ·obtain⟨z,hz,h1⟩:=h;exact glue ac _ _ (by simp) h1 (bD ⟨rfl,z,hz,rfl⟩)
theorem df{ops:Array Oper}{listed:Array Bool}{i:Nat}(h:i∈Region.ready .any ops listed):∃o,ops[i]? = some o/\listed.getD i true=false/\∀k∈aft o,listed.getD k false=true:=by
 simp only[Region.ready,nN,ep,au,eO]at h;obtain⟨h1,h2,h3⟩:=h;have ho:ops[i]? = some ops[i]:=aB h1;rw[ho]at h3;refine⟨ops[i],ho,h2,fun k hk=>?_⟩;simp only[da,fG]at h3;simp only[aft,eY,nN]at hk;obtain⟨e,⟨he,hb⟩,rfl⟩:=hk;have:=(Array.all_eq_true_iff_forall_mem.1 h3) e (by simpa using he)
 simpa [hb]using this
theorem ot{ops:Array Oper}{listed:Array Bool}{i:Nat}{o:Oper}(ho:ops[i]? = some o)(hl:listed.getD i true=false)(ha:∀k∈aft o,listed.getD k false=true):i∈Region.ready .any ops listed:=by
 have hi:i<ops.size:=(Array.getElem?_eq_some_iff.1 ho).1;simp only[Region.ready,nN,ep,au,eO];refine⟨hi,hl,?_⟩;rw[ho];simp only[da,fG];refine Array.all_eq_true_iff_forall_mem.2 fun e he=>?_;by_cases hb:Region.binds .any e=true
 ·have:=ha e.on (by simp only[aft,eY,nN];exact⟨e,⟨by simpa using he,hb⟩,rfl⟩)
  rw[this];simp
 ·simp[hb]
def Ia(listed:Array Bool):Nat:=listed.toList.countP (·==false)
theorem C6{listed:Array Bool}{i:Nat}(h:listed.getD i true=false):Ia (listed.setIfInBounds i true)+1=Ia listed:=by
 have hi:i<listed.size:=by
  rcases Nat.lt_or_ge i listed.size with h1|h1
  ·exact h1
  ·rw[aF,Array.getElem?_eq_none h1]at h;cases h
 have hv:listed.toList[i]'(by simpa using hi)=false:=by
  rw[aF,aB hi]at h;simpa using h
 simp only[Ia,Array.toList_setIfInBounds];rw[List.countP_set (by simpa using hi),hv]
 have:0<listed.toList.countP (·==false):=List.countP_pos_iff.2 ⟨false,by rw[<-hv];exact List.getElem_mem _,rfl⟩
 rw[if_pos (by rfl),if_neg (by decide)]
 omega
theorem cb(listed:Array Bool)(i k:Nat)(d:Bool)(hi:i<listed.size):(listed.setIfInBounds i true).getD k d=if k=i then true else listed.getD k d:=by
 simp only[aF];by_cases e:k=i
 ·subst e;simp[hi]
 ·rw[if_neg e,Array.getElem?_setIfInBounds_ne (Ne.symm e)]
theorem iN{ops:Array Oper}{Q:Exit->Act->World->Prop}(I:Array Bool->Act->World->Prop)
  (hstep:∀listed a w i,I listed a w->i∈Region.ready .any ops listed->wpOp Tryz.prog ops Q i (fun a' w'=>I (listed.setIfInBounds i true) a' w') a w)
  (hend:∀listed a w,I listed a w->Region.ready .any ops listed=[]->Q .normal a w) :
  ∀fuel listed a w,Ia listed<=fuel->I listed a w->wpAny Tryz.prog .any ops Q fuel listed a w
 | 0,listed,a,w,hf,hI=>by
  have hr:Region.ready .any ops listed=[]:=by
   cases hr:Region.ready .any ops listed with
   | nil=>rfl
   | cons x xs =>
    obtain⟨o,_,h2,_⟩:=df (i:=x) (by rw[hr];exact dU ..)
    have:=C6 h2;omega
  exact⟨hr,hend listed a w hI hr⟩
 | fuel+1,listed,a,w,hf,hI=>by
  refine⟨hend listed a w hI,fun i hi=>?_⟩;obtain⟨o,_,h2,_⟩:=df hi;have hu:=C6 h2;exact wpOp_mono (fun a' w' h=>iN I hstep hend fuel _ a' w' om h) (hstep listed a w i hI hi)
def fE(ops:Array Oper)(listed:Array Bool):Prop:=∀(i:Nat) (o:Oper),ops[i]? = some o->listed.getD i false=true->∀k∈aft o,listed.getD k false=true
theorem eB{ops:Array Oper}{listed:Array Bool}(hc:fE ops listed):∀(f j i:Nat) (o:Oper),ops[i]? = some o->(∀k∈aft o,listed.getD k false=true)->nS ops f j i=true->listed.getD j false=true
 | 0,_,_,_,_,_,h=>by simp[nS]at h
 | f+1,j,i,o,ho,ha,h=>by
  simp only[nS,ho,cW]at h;rcases h with h|h
  ·exact ha j (by simpa using h)
  ·obtain⟨k,hk,h⟩:=List.any_eq_true.1 h
   replace h:=(au _ _▸h:_/\_).2
   cases f with
   | zero=>simp[nS]at h
   | succ f =>
    cases hok:ops[k]? with
    | none=>simp[nS,hok]at h
    | some ok=>exact eB hc (f+1) j k ok hok (hc k ok hok (ha k hk)) h
structure DOK(ops:Array Oper)(q:Nat):Prop where
 guard:∀(i:Nat) (o:Oper),ops[i]? = some o->o.guard=ac
 back:∀(i:Nat) (o:Oper),ops[i]? = some o->∀k∈aft o,k<i
 reads:∀(i:Nat) (o:Oper) (j:Nat) (p:Oper) (t:Nat),i<q->j<q->ops[i]? = some o->ops[j]? = some p->p.dst=some t->t∈jx o->j<i/\j∈aft o
 apart:∀(i:Nat) (o:Oper) (j:Nat) (p:Oper) (t:Nat),i<q->j<q->ops[i]? = some o->ops[j]? = some p->o.dst=some t->p.dst=some t->i=j
 tail:∀(i:Nat) (o:Oper),q<=i->ops[i]? = some o->∀j,j<i->j∈aft o∨nS ops 12 j i=true
 le:q<=ops.size
theorem fJ{l:List Oper}{i:Nat}{o:Oper}(h:l[i]? = some o):(o,i)∈l.zipIdx:=by
 rw[List.mem_zipIdx_iff_getElem?];exact h
theorem AP{ops:Array Oper}{q:Nat}(h:uV ops q=true):DOK ops q:=by
 simp only[uV,au,decide_eq_true_eq]at h;obtain⟨⟨⟨⟨⟨h1,h2⟩,h3⟩,h4⟩,h5⟩,h6⟩:=h;have gl:∀{i:Nat} {o:Oper},ops[i]? = some o->ops.toList[i]? = some o:=fun h=>by simpa using h
 have tk:∀{i:Nat} {o:Oper},i<q->ops[i]? = some o->(o,i)∈(ops.toList.take q).zipIdx:=fun hi ho=>fJ (by rw[List.getElem?_take,if_pos hi];exact gl ho)
 refine⟨fun i o ho=>?_,fun i o ho k hk=>?_,fun i o j p t hi hj ho hp ht hl=>?_,fun i o j p t hi hj ho hp ht hpt=>?_,fun i o hi ho j hj=>?_,by simpa using h6⟩
 ·have:=az.1 h1 o (cq (gl ho));simpa using this
 ·have:=az.1 (az.1 h2 (o,i) (fJ (gl ho))) k hk;simpa using this
 ·have:=az.1 (az.1 h3 (o,i) (tk hi ho)) (p,j) (tk hj hp);simp only[ht]at this;simp only[cW,eO,au,decide_eq_true_eq]at this;rcases this with h7|h7
  ·simp at h7;exact absurd hl h7
  ·exact⟨h7.1,by simpa using h7.2⟩
 ·have:=az.1 (az.1 h4 (o,i) (tk hi ho)) (p,j) (tk hj hp);simp only[ht,hpt]at this;simpa using this
 ·have hm:(o,i)∈ops.toList.zipIdx.drop q:=by
   rw[List.mem_iff_getElem?];exact⟨i-q,by rw[List.getElem?_drop,show q+(i-q)=i by omega,List.getElem?_zipIdx,gl ho];simp⟩
  have:=az.1 (az.1 h5 (o,i) hm) j (by simpa using hj)
  simpa using this
theorem i9{o:Oper}{O O':Tm}(h:∀t∈jx o,O t=O' t):∀x,x∈o.op.operands.toList->ev O x=ev O' x:=by
 intro x hx
 cases x with
 | tmp t=>exact h t (by simp only[jx,List.mem_filterMap];exact⟨.tmp t,hx,rfl⟩)
 | const v=>rfl
 | global g=>rfl
 | func f=>rfl
theorem dz.fresh{w:World}{S:St}(h:dz w S){b:Nat}(hb:w.heap.size<=b):S b=ac:=by
 cases e:S b with
 | none=>rfl
 | some X=>obtain⟨cs,h1,_⟩:=h b X e;exact absurd (dE h1) om
end Go.Proofs.YtdobfmlmenaajaaGreatDoor
