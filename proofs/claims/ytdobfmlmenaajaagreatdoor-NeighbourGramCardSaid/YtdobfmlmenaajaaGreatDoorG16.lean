/-
  Lemmas for NeighbourGram.
-/
import Derived.Test.YtdobfmlmenaajaaGreatDoorG15
import Derived.Laws.Externs
import Derived.Laws.Bits64b
import Derived.Test.YtdobfmlmenaajaaGreatDoorG12
namespace Go.Proofs.YtdobfmlmenaajaaGreatDoor
open Go.RowKit Tryz
open _root_.Classical renaming choose→c9
open _root_.Nat renaming beq→ap,blt→aM,ble→je
open _root_.Option renaming none→ab
open Tryz renaming prog→ah
set_option maxHeartbeats 6400000
set_option maxRecDepth 4096
set_option linter.all false
variable{a b z:Int}{op:Int->Int->Option XV}{L' as':List AV}{L args:List XV}{f k x y:Nat}{isL:Nat->Bool}{leaf:Nat->List XV->Option XV}{M:Nat->Prop}{φ:Ph}{v:Value}{w:World}
noncomputable section
def Ai:List ResultVar->TE->EL->Option (List XV)
 | [],_,_=>some []
 | .tmp t::r,te,l=>(match Ai r te l with
  | some L=>some (jF te t::L)
  | ab=>ab)
 | .cell p ty::r,te,l=>(match vQ ty (jF te p) l with
  | some v=>(match Ai r te l with
   | some L=>some (v::L)
   | ab=>ab)
  | ab=>ab)
theorem Cc{φ:Ph}{te:TE}{O:Tm}{l:EL}{S:St}(c:TR φ te O)(d:MR φ l S):∀{rs:List ResultVar} {L:List XV} {K:List AV->Prop},Ai rs te l=some L->(∀L',eZ φ L L'->K L')->wY rs O S K
 | [],L,K,h,b=>by
  simp only[Ai]at h;cases h;exact b [] (by simp[eZ])
 | .tmp t::r,L,K,h,b=>by
  simp only[Ai]at h
  cases a:Ai r te l with
  | none=>rw[a]at h;cases h
  | some L1 =>
   rw[a]at h;cases h;exact Cc (rs:=r) (K:=fun l=>K (O t::l)) c d a fun L' e=>b _ (by simp only[eZ];exact⟨c t,e⟩)
 | .cell p ty::r,L,K,h,b=>by
  simp only[Ai]at h
  cases f:vQ ty (jF te p) l with
  | none=>rw[f]at h;cases h
  | some v =>
   rw[f]at h
   cases a:Ai r te l with
   | none=>rw[a]at h;cases h
   | some L1 =>
    rw[a]at h;cases h;exact DX f (c p) d fun z g=>Cc (rs:=r) (K:=fun l=>K (z::l)) c d a fun L' e=>b _ (by simp only[eZ];exact⟨g,e⟩)
def Mw:List XV->XV
 | [x]=>x
 | l=>.tup l
def O8(h:eZ φ L L'):ER φ (Mw L) (qj L'):=by
 match L,L',h with
 | [],[],h=>simp only[Mw,qj,ER];exact⟨_,rfl,h⟩
 | [x],[a],h=>simp only[eZ]at h;exact h.1
 | x::y::L,a::b::L',h=>simp only[Mw,qj,ER];exact⟨_,rfl,h⟩
 | [],_::_,h=>simp[eZ]at h
 | _::_,[],h=>simp[eZ]at h
 | [_],_::_::_,h=>simp[eZ]at h
 | _::_::_,[_],h=>simp[eZ]at h
structure XF where
 code:Code
 res:List ResultVar
 N:Nat
 hm:Nat
variable{tbl:Nat->Option XF}
def AW(call:d9)(F:XF)(args:List XV)(nx:Nat)(l:EL):XR:=match je args.length F.N with
 | true=>(match l9 call F.hm 5000 F.code (yQ args) nx l with
  | some (e,te,nx',l')=>(match e with
   | .exit _=>ab
   | _=>match Ai F.res te l' with
    | some L=>some (Mw L,nx',l')
    | ab=>ab)
  | ab=>ab)
 | false=>ab
structure Qt(f:Nat)(F:XF):Prop where
 rng:(11<=f/\f<270)/\f≠252/\f≠253
 fn:∃fn,ah.funcs[f]? = some fn/\fn.body=some F.code/\fn.results.toList=F.res/\fn.ntmps=F.N
 code:iS F.N F.code=true
 regs:kl F.hm F.code=true
def Q4(h:eZ φ args as'):TR φ (yQ args) (Jn as'):=fun t=>by
 rw[Gn];unfold Jn;rw[gO,gO]
 cases e:args[t]? with
 | some x =>
  obtain⟨a,b,c⟩:=h.get e;rw[b];exact c
 | none=>simp[ER]
def D3{call:d9}(m:mD call)(n:tN call){f:Nat}{F:XF}(d:Qt f F){args:List XV}{nx:Nat}{l:EL}{r:XV×Nat×EL}(h:AW call F args nx l=some r){φ:Ph}(o:GP φ){as':List AV}(j:eZ φ args as'){S:St}(p:MR φ l S){K:AV->St->Prop}(q:XK φ r.1 r.2.2 K):cE f as' S K:=by
 obtain⟨fn,s,t,u,v⟩:=d.fn;unfold AW at h;split at h
 .rename_i b;split at h
  .rename_i e te nx' l' w;have a:as'.length<=F.N:=by rw[j.length];exact cf b
   refine oa s t F.N v d.code a ?_;refine Le m n F.hm 5000 F.code (yQ args) nx l _ d.regs w o (Q4 j) p fun ψ O' S' x y k=>?_;rw[u];have fin:∀{L},Ai F.res te l'=some L->r=(Mw L,nx',l')->wY F.res O' S' (fun l=>K (qj l) S'):=fun c e=>by
    subst e;exact Cc y k c fun L' g=>q ψ _ S' x (O8 g) k
   cases e with
   | exit i=>cases h
   | normal =>
    dsimp only at h;split at h
    .rename_i L c;cases h;exact fin c rfl
    .cases h
   | ret =>
    dsimp only at h;split at h
    .rename_i L c;cases h;exact fin c rfl
    .cases h
  .cases h
 .cases h
mutual
def rO:XV->Bool
 | .int ..=>true
 | .bool _=>true
 | .big _=>true
 | .nil=>true
 | .tup l=>D7 l
 | .agg l=>D7 l
 | _=>false
def D7:List XV->Bool
 | []=>true
 | x::l=>rO x&&D7 l
end
mutual
theorem H4:∀(x:XV),rO x=true->∃z:AV,pq z=true/\∀(φ:Ph) (a:AV),ER φ x a↔a=z
 | .int k n,_=>⟨.int k n,rfl,fun φ a=>by simp[ER]⟩
 | .bool b,_=>⟨.bool b,rfl,fun φ a=>by simp[ER]⟩
 | .big z,_=>⟨.big z,rfl,fun φ a=>by simp[ER]⟩
 | .nil,_=>⟨.nil,rfl,fun φ a=>by simp[ER]⟩
 | .tup l,h=>by
  simp only[rO]at h;obtain⟨L,d,c⟩:=yk l h;refine⟨.tup L,by simpa [pq]using d,fun φ a=>?_⟩
  simp only[ER];exact⟨fun⟨r,e,f⟩=>by rw[e,(c φ r).1 f],fun e=>⟨L,e,(c φ L).2 rfl⟩⟩
 | .agg l,h=>by
  simp only[rO]at h;obtain⟨L,d,c⟩:=yk l h;refine⟨.agg L,by simpa [pq]using d,fun φ a=>?_⟩
  simp only[ER];exact⟨fun⟨r,e,f⟩=>by rw[e,(c φ r).1 f],fun e=>⟨L,e,(c φ L).2 rfl⟩⟩
 | .sl ..,h=>by simp[rO]at h
 | .ptr ..,h=>by simp[rO]at h
 | .lst ..,h=>by simp[rO]at h
 | .pat ..,h=>by simp[rO]at h
 | .fn ..,h=>by simp[rO]at h
 | .any,h=>by simp[rO]at h
 | .nfn,h=>by simp[rO]at h
 | .mfn ..,h=>by simp[rO]at h
theorem yk:∀(l:List XV),D7 l=true->∃L:List AV,Ap L=true/\∀(φ:Ph) (r:List AV),eZ φ l r↔r=L
 | [],_=>⟨[],rfl,fun φ r=>by cases r<;>simp[eZ]⟩
 | x::l,h=>by
  simp only[D7,au]at h;obtain⟨z,b,c⟩:=H4 x h.1;obtain⟨L,d,e⟩:=yk l h.2;refine⟨z::L,by simp[Ap,b,d],fun φ r=>?_⟩
  cases r with
  | nil=>simp[eZ]
  | cons a r=>simp only[eZ,jo,c,e]
end
def Na(leaf:Nat->List XV->Option XV):Prop:=∀f args v,leaf f args=some v->((11<=f/\f<270)/\f≠252/\f≠253)/\∀φ as',eZ φ args as'->∃z,(∀ψ,ER ψ v z)/\PF f as' z
def Qz(tbl:Nat->Option XF):Prop:=∀f F,tbl f=some F->Qt f F
def Qk:EL:=.n (some ab) .e .e
def Hz(isL:Nat->Bool)(leaf:Nat->List XV->Option XV)(tbl:Nat->Option XF)(call:d9)(f:Nat)(args:List XV)(nx:Nat)(l:EL):XR:=match isL f with
  | true=>(match leaf f args with
   | some v=>some (v,nx,l)
   | ab=>ab)
  | false=>(match tbl f with
   | ab=>ab
   | some F=>(match Bt f with
    | true=>(match AW call F args 1 Qk with
     | some (v,_,_)=>(match lK args&&rO v with
      | true=>some (v,nx,l)
      | false=>ab)
     | ab=>ab)
    | false=>AW call F args nx l))
def vR(isL:Nat->Bool)(leaf:Nat->List XV->Option XV)(tbl:Nat->Option XF)(n:Nat):d9:=Nat.rec (motive:=fun _=>d9) (fun _ _ _ _=>ab) (fun _ ih=>Hz isL leaf tbl ih) n
def yc(f:Nat)(args:List XV)(nx:Nat)(l:EL):vR isL leaf tbl 0 f args nx l=ab:=rfl
def yd(n f:Nat)(args:List XV)(nx:Nat)(l:EL):vR isL leaf tbl (n+1) f args nx l=Hz isL leaf tbl (vR isL leaf tbl n) f args nx l:=rfl
def ye:∀n,tN (vR isL leaf tbl n)
 | 0=>fun f args nx l r _ h=>by rw[yc]at h;cases h
 | n+1=>fun f args nx l r a h=>by
  simp only[yd,Hz]at h ⊢
  cases b:isL f with
  | true =>
   rw[b]at h;dsimp only at h ⊢
   cases c:leaf f args with
   | none=>rw[c]at h;cases h
   | some v=>rw[c]at h;cases h;exact⟨rfl,fun _ _=>rfl⟩
  | false =>
   rw[b]at h;dsimp only at h ⊢
   cases d:tbl f with
   | none=>rw[d]at h;cases h
   | some F =>
    rw[d,a]at h;rw[a];dsimp only at h ⊢
    cases e:AW (vR isL leaf tbl n) F args 1 Qk with
    | none=>rw[e]at h;cases h
    | some p =>
     obtain⟨v,q⟩:=p;rw[e]at h;dsimp only at h ⊢
     cases g:(lK args&&rO v)with
     | false=>rw[g]at h;cases h
     | true=>rw[g]at h;cases h;exact⟨rfl,fun _ _=>rfl⟩
def φ0:Ph:=fun i=>if i=0 then some 0 else ab
def yW(i:Nat):en Qk i=if i=0 then some ab else ab:=by
 unfold Qk;rw[jI,yX,yX];split
 .rfl
 .split<;>rfl
def MR.empty:MR φ0 Qk St.none:=by
 refine⟨fun i a=>?_,fun i X a=>?_,fun i j X Y b a=>?_⟩
 .unfold φ0;rw[yW]at a;by_cases e:i=0
  .rw[ai e]at a;cases a
  .rw[af e]
 .rw[yW]at a;split at a<;>cases a
 .rw[yW]at a;split at a<;>cases a
theorem D0{isL:Nat->Bool}{leaf:Nat->List XV->Option XV}{tbl:Nat->Option XF}(u:Na leaf)(w:Qz tbl):∀n,mD (vR isL leaf tbl n)
 | 0=>fun f args nx l r h=>by rw[yc]at h;cases h
 | n+1=>fun f args nx l r h φ as' S K y e g i=>by
  have ih:=D0 u w (isL:=isL) n;simp only[yd,Hz]at h
  cases x:isL f with
  | true =>
   rw[x]at h;dsimp only at h
   cases j:leaf f args with
   | none=>rw[j]at h;cases h
   | some v =>
    rw[j]at h;cases h;obtain⟨k,d⟩:=u f args v j;obtain⟨z,A,m⟩:=d φ as' e;exact⟨k,m.call (i φ z S (Ph.le_refl _) (A φ) g)⟩
  | false =>
   rw[x]at h;dsimp only at h
   cases o:tbl f with
   | none=>rw[o]at h;cases h
   | some F =>
    rw[o]at h;have s:=w f F o;refine⟨s.rng,?_⟩
    cases b:Bt f with
    | false =>
     rw[b]at h;exact D3 ih (ye n) s h y e g i
    | true =>
     rw[b]at h;dsimp only at h
     cases t:AW (vR isL leaf tbl n) F args 1 Qk with
     | none=>rw[t]at h;cases h
     | some p =>
      obtain⟨v,q⟩:=p;rw[t]at h;dsimp only at h
      cases c:(lK args&&rO v)with
      | false=>rw[c]at h;cases h
      | true =>
       rw[c]at h;cases h;simp only[au]at c;obtain⟨z,k,d⟩:=H4 v c.2;have:PF f as' z:=PF.of_spec (D3 ih (ye n) s t (φ:=φ0) (by simp[GP,φ0]) (mN _ _ c.1 e) MR.empty fun ψ a S' _ m _=>by
        have:=(d ψ a).1 m;subst this;exact VR.mf k)
       exact this.call (i φ z S (Ph.le_refl _) ((d φ z).2 rfl) g)
end

def Km(x y c:Nat)(a:c<=1)(w:World):(callFunc 252 #[.int .u64 x,.int .u64 y,.int .u64 c]).run ah w =
   .ok (.value (.tuple #[.int .u64 (((x:Int)+y+c)%18446744073709551616),.int .u64 (((x:Int)+y+c)/18446744073709551616)])) w:=by
 rw[Tl func252 kr kr kr (e:=add64Entry) kr,run_add64 x y c om om om om]
 rfl
def Q6:Array Value->Sem Value:=fun args=>do
 let (x, y, b) <- Extern.MathBitsCarry.three "Sub64" args
 pure (Extern.MathBitsCarry.pair ((x+Extern.MathBitsCarry.m64-y-b)%Extern.MathBitsCarry.m64) (if x<y+b then 1 else 0))
def uD(x y b:Nat)(a:b<=1)(w:World):(callFunc 253 #[.int .u64 x,.int .u64 y,.int .u64 b]).run ah w =
   .ok (.value (.tuple #[.int .u64 (((x+18446744073709551616-y-b)%18446744073709551616:Nat):Int),.int .u64 ((if x<y+b then 1 else 0:Nat):Int)])) w:=by
 rw[Tl func253 kr kr kr (e:=Q6) kr]
 have:b=0∨b=1:=om
 rcases this with rfl|rfl<;>rfl
def Gv(x y:Nat)(hx:x<4294967296)(hy:y<4294967296)(w:World):Calls ah 251 #[.int .u64 x,.int .u64 y] w fun e w'=>e=.returned (.tuple #[.int .u64 0,.int .u64 ((x*y:Nat):Int)])/\w'=w:=by
 have hxy:x*y<18446744073709551616:=by
  have:=bs (om:x<=4294967295) (om:y<=4294967295)
  omega
 go_enter func251,ntmps251
 go_wp2;have mask:∀a:Nat,a<4294967296->bits .and .u64 (a:Int) 4294967295=(a:Int):=fun a ha=>by
  have h:=bits_and_u64_nat a 4294967295 om om;have e:a &&& 4294967295=a%4294967296:=Nat.and_two_pow_sub_one_eq_mod a 32;rw[e,ez ha]at h;exact h
 have mx:=mask x hx;have my:=mask y hy;have dx:(x:Int)/4294967296=0:=om
 have dy:(y:Int)/4294967296=0:=om
 have w0:IntKind.u64.wrap 0=0:=rfl;have wP:IntKind.u64.wrap ((x:Int)*y)=((x*y:Nat):Int):=by rw[bX,<-bL];omega
 have dP:((x*y:Nat):Int)/4294967296=((x*y/4294967296:Nat):Int):=om
 have wQ:IntKind.u64.wrap ((x*y/4294967296:Nat):Int)=((x*y/4294967296:Nat):Int):=by rw[bX];omega
 have mQ:=mask (x*y/4294967296) om;have dQ:((x*y/4294967296:Nat):Int)/4294967296=0:=om
 simp only[mx,my,dx,dy,ug,uh,w0,QJ,Int.add_zero,wP,dP,wQ,mQ,dQ];go_ret2;exact⟨rfl,rfl⟩
def IY(x y:Nat)(h:x+y<18446744073709551616)(w:World):(callFunc 252 #[.int .u64 x,.int .u64 y,.int .u64 0]).run ah w=.ok (.value (.tuple #[.int .u64 ((x+y:Nat):Int),.int .u64 0])) w:=by
 have:=Km x y 0 om w;rw[show((x:Int)+y+(0:Nat))%18446744073709551616=((x+y:Nat):Int) by omega,show((x:Int)+y+(0:Nat))/18446744073709551616=0 by omega]at this
 exact this
def Pu(w:World):(callFunc 252 #[.int .u64 0,.int .u64 0,.int .u64 0]).run ah w=.ok (.value (.tuple #[.int .u64 0,.int .u64 0])) w:=IY 0 0 om w
def Jk(s x y:Nat)(hx:x<4294967296)(hy:y<4294967296)(hs:s+x*y<18446744073709551616)(w:World):Calls ah 215 #[.agg #[.int .u64 0,.int .u64 s],.int .u64 x,.int .u64 y] w fun e w'=>e=.returned (.agg #[.int .u64 0,.int .u64 ((s+x*y:Nat):Int)])/\Below w.heap.size w w':=by
 have hm:=Gv x y hx hy;generalize x*y=P at hm hs ⊢;have e1:=IY s P hs
 go_enter func215,ntmps215
 go_wp2_with fail
 refine(hm _).mono ?_;rintro e w' ⟨rfl,hw'⟩;rw[hw']
 go_wp2_with (simp only[Pu])
 refine cw (v:=.agg #[.int .u64 0,.int .u64 ((s:Int)+P)]) (by simp[results,results215,go_sem]) rfl ⟨by rw[gZ],((a9 _ w).alloc (ae _) _).alloc sm _⟩
def Ia(x y:Nat)(a:x<18446744073709551616)(h:y<=x)(w:World):(callFunc 253 #[.int .u64 x,.int .u64 y,.int .u64 0]).run ah w=.ok (.value (.tuple #[.int .u64 ((x-y:Nat):Int),.int .u64 0])) w:=by
 have:=uD x y 0 om w;rw[show(x+18446744073709551616-y-0)%18446744073709551616=x-y by omega,af om]at this
 exact this
def N0(x y:Nat)(a:y<18446744073709551616)(h:x<y)(w:World):(callFunc 253 #[.int .u64 x,.int .u64 y,.int .u64 0]).run ah w=.ok (.value (.tuple #[.int .u64 ((x+18446744073709551616-y:Nat):Int),.int .u64 1])) w:=by
 have:=uD x y 0 om w;rw[show(x+18446744073709551616-y-0)%18446744073709551616=x+18446744073709551616-y by omega,ai om]at this
 exact this
def N2(w:World):(callFunc 253 #[.int .u64 0,.int .u64 0,.int .u64 0]).run ah w=.ok (.value (.tuple #[.int .u64 0,.int .u64 0])) w:=Ia 0 0 om om w
def N1(w:World):(callFunc 253 #[.int .u64 0,.int .u64 0,.int .u64 1]).run ah w=.ok (.value (.tuple #[.int .u64 18446744073709551615,.int .u64 1])) w:=uD 0 0 1 om w
def D6(x y:Nat)(hx:x<4611686018427387904)(h:y<=x)(w:World):Calls ah 216 #[.agg #[.int .u64 0,.int .u64 x],.agg #[.int .u64 0,.int .u64 y]] w fun e w'=>e=.returned (.tuple #[.int .i64 ((x-y:Nat):Int),.bool true])/\Below w.heap.size w w':=by
 have e1:=Ia x y om h;have hk:x-y<4611686018427387904:=om
 generalize x-y=P at e1 hk ⊢;have h1:¬(4611686018427387904:Int)<P:=om
 have w1:IntKind.i64.wrap (P:Int)=P:=by rw[oY];omega
 go_enter func216,ntmps216
 go_wp2_with (simp only[N2])
 go_ret2;exact⟨rfl,((a9 _ w).alloc (ae _) _).alloc sm _⟩
def Cf(x y:Nat)(hy:y<4611686018427387904)(h:x<y)(w:World):Calls ah 216 #[.agg #[.int .u64 0,.int .u64 x],.agg #[.int .u64 0,.int .u64 y]] w fun e w'=>e=.returned (.tuple #[.int .i64 0,.bool false])/\Below w.heap.size w w':=by
 have e1:=N0 x y om h;generalize x+18446744073709551616-y=P at e1
 go_enter func216,ntmps216
 go_wp2_with (simp only[N1])
 go_ret2;exact⟨rfl,((a9 _ w).alloc (ae _) _).alloc sm _⟩
def yj(h:bn w M (.agg [.int .u64 a,.int .u64 b]) v):v=.agg #[.int .u64 a,.int .u64 b]:=by
 simp only[bn]at h;obtain⟨vs,rfl,h⟩:=h
 match vs,h with
 | [x,y],h =>
  simp only[aW,bn]at h;obtain⟨rfl,rfl,_⟩:=h;simp[Value.cells]
 | [],h=>simp[aW]at h
 | [_],h=>simp[aW]at h
 | _::_::_::_,h=>simp[aW]at h
def NP(w:World)(M:Nat->Prop)(a b:Int):bn w M (.agg [.int .u64 a,.int .u64 b]) (.agg #[.int .u64 a,.int .u64 b]):=by
 simp only[bn];exact⟨[.int .u64 a,.int .u64 b],by simp[Value.cells],by simp[aW,bn]⟩
def NQ{s:Nat}(h:x<4294967296)(i:y<4294967296)(j:s+x*y<18446744073709551616):PF 215 [.agg [.int .u64 0,.int .u64 s],.int .u64 x,.int .u64 y] (.agg [.int .u64 0,.int .u64 ((s+x*y:Nat):Int)]):=by
 intro w vs _ d
 match vs,d with
 | [a,b,c],d =>
  simp only[aW]at d;obtain⟨k,f,g,_⟩:=d;obtain rfl:=yj k;simp only[bn]at f g;subst f;subst g;refine(Jk s x y h i j w).mono ?_;rintro e w' ⟨rfl,l⟩;exact⟨_,rfl,NP _ _ _ _,dl.below l⟩
 | [],d=>simp[aW]at d
 | [_],d=>simp[aW]at d
 | [_,_],d=>simp[aW]at d
 | _::_::_::_::_,d=>simp[aW]at d
def P4{b:Bool}(h:∀w,Calls ah 216 #[.agg #[.int .u64 0,.int .u64 x],.agg #[.int .u64 0,.int .u64 y]] w fun e w'=>e=.returned (.tuple #[.int .i64 z,.bool b])/\Below w.heap.size w w'):PF 216 [.agg [.int .u64 0,.int .u64 x],.agg [.int .u64 0,.int .u64 y]] (.tup [.int .i64 z,.bool b]):=by
 intro w vs _ d
 match vs,d with
 | [a,c],d =>
  simp only[aW]at d;obtain⟨f,g,_⟩:=d;obtain rfl:=yj f;obtain rfl:=yj g;refine(h w).mono ?_;rintro e w' ⟨rfl,i⟩;refine⟨_,rfl,?_,dl.below i⟩;simp only[bn];exact⟨[.int .i64 z,.bool b],sm,by simp[aW,bn]⟩
 | [],d=>simp[aW]at d
 | [_],d=>simp[aW]at d
 | _::_::_::_,d=>simp[aW]at d
def Ji(a:x<4611686018427387904)(h:y<=x):PF 216 [.agg [.int .u64 0,.int .u64 x],.agg [.int .u64 0,.int .u64 y]] (.tup [.int .i64 ((x-y:Nat):Int),.bool true]):=P4 (D6 x y a h)
def Jj(a:y<4611686018427387904)(h:x<y):PF 216 [.agg [.int .u64 0,.int .u64 x],.agg [.int .u64 0,.int .u64 y]] (.tup [.int .i64 0,.bool false]):=P4 (Cf x y a h)

noncomputable section
def smx(z:Int):Bool:=aM z.natAbs 18446744073709551616
def F7(h:smx z=true):nb z 64:=by
 unfold smx at h;rw[nT]at h;unfold nb;omega
def Rn(op:Int->Int->Option XV):List XV->Option XV
 | [.big a,.big b]=>(match smx a&&smx b with
  | true=>op a b
  | false=>ab)
 | _=>ab
def Sz(op:Int->Option XV):List XV->Option XV
 | [.big a]=>(match smx a with
  | true=>op a
  | false=>ab)
 | _=>ab
def LFX(f:Nat)(args:List XV)(v:XV):Prop:=∀φ as',eZ φ args as'->∃z,(∀ψ,ER ψ v z)/\PF f as' z
def yZ(d:∀a b v,nb a 64->nb b 64->op a b=some v->∃z,(∀ψ,ER ψ v z)/\PF f [.big a,.big b] z){args:List XV}{v:XV}(h:Rn op args=some v):LFX f args v:=by
 unfold Rn at h;split at h
 .rename_i a b;split at h
  .rename_i e;simp only[au]at e;intro φ as' c
   match as',c with
   | [x,y],c =>
    simp only[eZ,ER]at c;obtain⟨rfl,rfl,_⟩:=c;exact d a b v (F7 e.1) (F7 e.2) h
   | [],c=>simp[eZ]at c
   | [_],c=>simp[eZ]at c
   | _::_::_::_,c=>simp[eZ]at c
  .cases h
 .cases h
def CQ{op:Int->Option XV}(c:∀a v,nb a 64->op a=some v->∃z,(∀ψ,ER ψ v z)/\PF f [.big a] z){args:List XV}{v:XV}(h:Sz op args=some v):LFX f args v:=by
 unfold Sz at h;split at h
 .rename_i a;split at h
  .rename_i d;intro φ as' b
   match as',b with
   | [x],b =>
    simp only[eZ,ER]at b;obtain⟨rfl,_⟩:=b;exact c a v (F7 d) h
   | [],b=>simp[eZ]at b
   | _::_::_,b=>simp[eZ]at b
  .cases h
 .cases h
def O4(a:Int):Bool:=decide (-9223372036854775808<=a)&&decide (a<=9223372036854775807)
def IC:List XV->Option XV
 | [.int .i64 a]=>(match O4 a with
  | true=>some (.big a)
  | false=>ab)
 | _=>ab
def L6:List XV->Option XV
 | [.agg [.int .u64 (.ofNat h),.int .u64 (.ofNat s)],.int .u64 (.ofNat x),.int .u64 (.ofNat y)]=>(match ap h 0&&aM x 4294967296&&aM y 4294967296&&aM (s+x*y) 18446744073709551616 with
  | true=>some (.agg [.int .u64 0,.int .u64 (.ofNat (s+x*y))])
  | false=>ab)
 | _=>ab
def EC:List XV->Option XV
 | [.agg [.int .u64 (.ofNat h),.int .u64 (.ofNat s)],.agg [.int .u64 (.ofNat h'),.int .u64 (.ofNat s')]]=>(match ap h 0&&ap h' 0&&aM s 4611686018427387904&&aM s' 4611686018427387904 with
  | true=>(match je s' s with
   | true=>some (.tup [.int .i64 (.ofNat (s-s')),.bool true])
   | false=>some (.tup [.int .i64 0,.bool false]))
  | false=>ab)
 | _=>ab
def K7(f:Nat)(args:List XV):Option XV :=
 match ap f 133 with
 | true=>Rn (fun a b=>some (.big (a+b))) args
 | false=>match ap f 83 with
 | true=>Rn (fun a b=>some (.big (a*b))) args
 | false=>match ap f 192 with
 | true=>Rn (fun a b=>some (.big (a-b))) args
 | false=>match ap f 82 with
 | true=>Rn (fun a b=>match decide (b=0)with
  | true=>ab
  | false=>some (.tup [.big (a/b),.big (a%b),.bool true])) args
 | false=>match ap f 159 with
 | true=>Rn (fun a b=>some (.int .i64 (lA a b))) args
 | false=>match ap f 193 with
 | true=>Sz (fun a=>some (.big (-a))) args
 | false=>match ap f 157 with
 | true=>Sz (fun a=>some (.big a)) args
 | false=>match ap f 191 with
 | true=>Sz (fun a=>some (.int .i64 a.sign)) args
 | false=>match ap f 84 with
 | true=>Sz (fun a=>match O4 a with
  | true=>some (.tup [.int .i64 a,.bool true])
  | false=>ab) args
 | false=>match ap f 81 with
 | true=>IC args
 | false=>match ap f 215 with
 | true=>L6 args
 | false=>match ap f 216 with
 | true=>EC args
 | false=>ab
def L8:Nat:=2^133 ||| 2^83 ||| 2^192 ||| 2^82 ||| 2^159 ||| 2^193 ||| 2^157 ||| 2^191 ||| 2^84 ||| 2^81 ||| 2^215 ||| 2^216
def Rv(f:Nat):Bool:=Nat.testBit L8 f
def CY(h:O4 a=true):-9223372036854775808<=a/\a<=9223372036854775807:=by
 simpa [O4]using h
def K6:Na K7:=by
 intro f args v h;have big:∀(z:Int) (ψ:Ph),ER ψ (.big z) (.big z):=fun z ψ=>by simp[ER]
 have int:∀(k:IntKind) (z:Int) (ψ:Ph),ER ψ (.int k z) (.int k z):=fun k z ψ=>by simp[ER]
 have key:((11<=f/\f<270)/\f≠252/\f≠253)/\LFX f args v:=by
  unfold K7 at h
  repeat' (split at h)
  all_goals first
   | (rename_i e;obtain rfl:=ak e;refine⟨by decide,?_⟩)
   | cases h
  .exact yZ (fun a b v c i h=>by cases h;exact⟨_,big _,vk c i dc⟩) h
  .exact yZ (fun a b v c i h=>by cases h;exact⟨_,big _,po c i dc⟩) h
  .exact yZ (fun a b v c i h=>by cases h;exact⟨_,big _,Cr c i dc⟩) h
  .refine yZ (fun a b v c i h=>?_) h;split at h
   .cases h
   .rename_i g
    cases h
    exact⟨.tup [.big (a/b),.big (a%b),.bool true],fun ψ=>by simp[ER,eZ],JU c i dc (by simpa using g) (bO c)⟩
  .exact yZ (fun a b v c i h=>by cases h;exact⟨_,int _ _,MI c i dc⟩) h
  .exact CQ (fun a v c h=>by cases h;exact⟨_,big _,rY c dc⟩) h
  .exact CQ (fun a v c h=>by cases h;exact⟨_,big _,qV c dc⟩) h
  .exact CQ (fun a v c h=>by cases h;exact⟨_,int _ _,kG c dc⟩) h
  .refine CQ (fun a v c h=>?_) h;split at h
   .rename_i g
    cases h
    exact⟨.tup [.int .i64 a,.bool true],fun ψ=>by simp[ER,eZ],zf (CY g)⟩
   .cases h
  .unfold IC at h;split at h
   .rename_i a;split at h
    .rename_i g
     cases h
     intro φ as' c
     match as',c with
     | [x],c =>
      simp only[eZ,ER]at c;obtain⟨rfl,_⟩:=c;exact⟨_,big _,ky (CY g).1 (CY g).2⟩
     | [],c=>simp[eZ]at c
     | _::_::_,c=>simp[eZ]at c
    .cases h
   .cases h
  .unfold L6 at h;split at h
   .rename_i m s x y;split at h
    .rename_i g;simp only[au,nT]at g
     cases h
     intro φ as' c
     match as',c with
     | [u,v,w],c =>
      simp only[eZ,ER]at c;obtain⟨⟨R,rfl,d⟩,rfl,rfl,_⟩:=c
      match R,d with
      | [p,q],d =>
       simp only[eZ,ER]at d;obtain⟨rfl,rfl,_⟩:=d;obtain rfl:=ak g.1.1.1;exact⟨.agg [.int .u64 0,.int .u64 (.ofNat (s+x*y))],fun ψ=>by simp[ER,eZ],NQ g.1.1.2 g.1.2 g.2⟩
      | [],d=>simp[eZ]at d
      | [_],d=>simp[eZ]at d
      | _::_::_::_,d=>simp[eZ]at d
     | [],c=>simp[eZ]at c
     | [_],c=>simp[eZ]at c
     | [_,_],c=>simp[eZ]at c
     | _::_::_::_::_,c=>simp[eZ]at c
    .cases h
   .cases h
  .unfold EC at h;split at h
   .rename_i n s o s';split at h
    .rename_i g;simp only[au,nT]at g;intro φ as' c
     match as',c with
     | [u,w],c =>
      simp only[eZ,ER]at c;obtain⟨⟨R,rfl,d⟩,⟨R',rfl,j⟩,_⟩:=c
      match R,R',d,j with
      | [p,q],[p',q'],d,j =>
       simp only[eZ,ER]at d j;obtain⟨rfl,rfl,_⟩:=d;obtain⟨rfl,rfl,_⟩:=j;obtain rfl:=ak g.1.1.1;obtain rfl:=ak g.1.1.2;split at h
       .rename_i l
        cases h
        exact⟨.tup [.int .i64 (.ofNat (s-s')),.bool true],fun ψ=>by simp[ER,eZ],Ji g.1.2 (cf l)⟩
       .rename_i l
        cases h
        exact⟨.tup [.int .i64 0,.bool false],fun ψ=>by simp[ER,eZ],Jj g.2 (by
         rcases aA s s' with h|h
         .exact h
         .rw[Nat.ble_eq_true_of_le h]at l;cases l)⟩
      | [],_,d,_=>simp[eZ]at d
      | [_],_,d,_=>simp[eZ]at d
      | _::_::_::_,_,d,_=>simp[eZ]at d
      | [_,_],[],_,d=>simp[eZ]at d
      | [_,_],[_],_,d=>simp[eZ]at d
      | [_,_],_::_::_::_,_,d=>simp[eZ]at d
     | [],c=>simp[eZ]at c
     | [_],c=>simp[eZ]at c
     | _::_::_::_,c=>simp[eZ]at c
    .cases h
   .cases h
 exact key
end

def iR(d:nb a k)(f:nb b k)(n:k<=8000000000)(g:b≠0):PF 82 [.big a,.big b] (.tup [.big (a/b),.big (a%b),.bool true]):=by
 intro w vs _ c
 match vs,c with
 | [va,vb],c =>
  simp only[aW,bn]at c;refine(Hs va vb a b w.heap.size w (ae _) c.1 c.2.1 (d.nl om) (f.nl om) g).mono ?_;rintro e w' ⟨h,i,rfl,j,l,m⟩;exact⟨_,rfl,by simp only[bn];exact⟨[h,i,.bool true],rfl,by simp only[aW,bn];exact⟨j,l,trivial,trivial⟩⟩,dl.below m⟩
 | [],c=>simp[aW]at c
 | [_],c=>simp[aW]at c
 | _::_::_::_,c=>simp[aW]at c
def QI:∃k:Nat,271<=k/\k<=300:=⟨300,om,om⟩
noncomputable def KB:Nat:=c9 QI
def mC:271<=KB/\KB<=300:=cS QI
noncomputable def PB:Int:=2^KB
def Hd:((2^KB:Nat):Int)=PB:=by unfold PB;rw[I4];rfl
def FJ(h:-PB<z/\z<PB):nb z KB:=by
 have:=Hd;unfold nb;generalize (2:Nat)^KB=x at *;omega
def nb.P(h:nb z KB):-PB<z/\z<PB:=by
 have:=Hd;unfold nb at h;generalize (2:Nat)^KB=x at *;omega
def QC(h:0<=z/\z<PB):z.toNat<2^KB:=by
 have:=Hd;generalize (2:Nat)^KB=x at *;omega

end Go.Proofs.YtdobfmlmenaajaaGreatDoor
