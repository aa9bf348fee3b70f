/-
  Lemmas for NeighbourMembers.
-/
import Derived.Test.YtdobfmlmenaajaaGreatDoorN18
import Derived.Test.YtdobfmlmenaajaaGreatDoorN19
import Derived.Laws.Externs
import Derived.Laws.Bits64b
namespace Go.Proofs.YtdobfmlmenaajaaGreatDoor
open Go.RowKit
open Below renaming refl→aX
open _root_.Bool renaming and_eq_true→au
open _root_.List renaming getD_eq_getElem?_getD→gU
open _root_.Nat renaming le_refl→ah,eq_of_beq_eq_true→ao,beq→ap,blt→aJ,le_of_ble_eq_true→bU,ble→gZ,blt_eq→oU
open _root_.Option renaming none→ac
set_option maxHeartbeats 6400000
set_option maxRecDepth 4096
set_option linter.all false
noncomputable section
def wc:List ResultVar->TE->EL->Option (List XV)
 | [],_,_=>some []
 | .tmp t::r,te,l=>(match wc r te l with
  | some L=>some (ix te t::L)
  | ac=>ac)
 | .cell p ty::r,te,l=>(match si ty (ix te p) l with
  | some v=>(match wc r te l with
   | some L=>some (v::L)
   | ac=>ac)
  | ac=>ac)
theorem yf{φ:Ph}{te:TE}{O:Tm}{l:EL}{S:St}(ht:TR φ te O)(hm:MR φ l S):∀{rs:List ResultVar} {L:List XV} {K:List AV->Prop},wc rs te l=some L->(∀L',dZ φ L L'->K L')->sX rs O S K
 | [],L,K,h,hK=>by
  simp only[wc]at h;cases h;exact hK [] (by simp[dZ])
 | .tmp t::r,L,K,h,hK=>by
  simp only[wc]at h
  cases hr:wc r te l with
  | none=>rw[hr]at h;cases h
  | some L1 =>
   rw[hr]at h;cases h;exact yf (rs:=r) (K:=fun l=>K (O t::l)) ht hm hr fun L' hL=>hK _ (by simp only[dZ];exact⟨ht t,hL⟩)
 | .cell p ty::r,L,K,h,hK=>by
  simp only[wc]at h
  cases hx:si ty (ix te p) l with
  | none=>rw[hx]at h;cases h
  | some v =>
   rw[hx]at h
   cases hr:wc r te l with
   | none=>rw[hr]at h;cases h
   | some L1 =>
    rw[hr]at h;cases h;exact z8 hx (ht p) hm fun z hz=>yf (rs:=r) (K:=fun l=>K (z::l)) ht hm hr fun L' hL=>hK _ (by simp only[dZ];exact⟨hz,hL⟩)
def GC:List XV->XV
 | [x]=>x
 | l=>.tup l
theorem Ja{φ:Ph}{L:List XV}{L':List AV}(h:dZ φ L L'):ER φ (GC L) (og L'):=by
 match L,L',h with
 | [],[],h=>simp only[GC,og,ER];exact⟨_,rfl,h⟩
 | [x],[a],h=>simp only[dZ]at h;exact h.1
 | x::y::L,a::b::L',h=>simp only[GC,og,ER];exact⟨_,rfl,h⟩
 | [],_::_,h=>simp[dZ]at h
 | _::_,[],h=>simp[dZ]at h
 | [_],_::_::_,h=>simp[dZ]at h
 | _::_::_,[_],h=>simp[dZ]at h
structure XF where
 code:Code
 res:List ResultVar
 N:Nat
 hm:Nat
def wX(call:dh)(F:XF)(args:List XV)(nx:Nat)(l:EL):XR:=match gZ args.length F.N with
 | true=>(match kB call F.hm 5000 F.code (ut args) nx l with
  | some (e,te,nx',l')=>(match e with
   | .exit _=>ac
   | _=>match wc F.res te l' with
    | some L=>some (GC L,nx',l')
    | ac=>ac)
  | ac=>ac)
 | false=>ac
structure Jw(f:Nat)(F:XF):Prop where
 rng:(11<=f/\f<270)/\f≠252/\f≠253
 fn:∃fn,Tryz.prog.funcs[f]? = some fn/\fn.body=some F.code/\fn.results.toList=F.res/\fn.ntmps=F.N
 code:ie F.N F.code=true
 regs:iT F.hm F.code=true
theorem Kw{φ:Ph}{args:List XV}{as':List AV}(h:dZ φ args as'):TR φ (ut args) (D9 as'):=fun t=>by
 rw[B9];unfold D9;rw[gU,gU]
 cases e:args[t]? with
 | some x =>
  obtain⟨a,h1,h2⟩:=h.get e;rw[h1];exact h2
 | none=>simp[ER]
theorem Ac{call:dh}(hc:kq call)(hp:rc call){f:Nat}{F:XF}(hF:Jw f F){args:List XV}{nx:Nat}{l:EL}{r:XV×Nat×EL}(h:wX call F args nx l=some r){φ:Ph}(hG:GP φ){as':List AV}(ha:dZ φ args as'){S:St}(hm:MR φ l S){K:AV->St->Prop}(hK:XK φ r.1 r.2.2 K):cM f as' S K:=by
 obtain⟨fn,h1,h2,h3,h4⟩:=hF.fn;unfold wX at h;split at h
 ·rename_i hlen;split at h
  ·rename_i e te nx' l' hx;have hlen':as'.length<=F.N:=by rw[ha.length];exact bU hlen
   refine mi h1 h2 F.N h4 hF.code hlen' ?_;refine FG hc hp F.hm 5000 F.code (ut args) nx l _ hF.regs hx hG (Kw ha) hm fun ψ O' S' k1 k2 k3=>?_;rw[h3];have fin:∀{L},wc F.res te l'=some L->r=(GC L,nx',l')->sX F.res O' S' (fun l=>K (og l) S'):=fun hL e=>by
    subst e;exact yf k2 k3 hL fun L' hL'=>hK ψ _ S' k1 (Ja hL') k3
   cases e with
   | exit i=>cases h
   | normal =>
    dsimp only at h;split at h
    ·rename_i L hL;cases h;exact fin hL rfl
    ·cases h
   | ret =>
    dsimp only at h;split at h
    ·rename_i L hL;cases h;exact fin hL rfl
    ·cases h
  ·cases h
 ·cases h
mutual
def pJ:XV->Bool
 | .int ..=>true
 | .bool _=>true
 | .big _=>true
 | .nil=>true
 | .tup l=>Ag l
 | .agg l=>Ag l
 | _=>false
def Ag:List XV->Bool
 | []=>true
 | x::l=>pJ x&&Ag l
end
mutual
theorem C3:∀(x:XV),pJ x=true->∃z:AV,nY z=true/\∀(φ:Ph) (a:AV),ER φ x a↔a=z
 | .int k n,_=>⟨.int k n,rfl,fun φ a=>by simp[ER]⟩
 | .bool b,_=>⟨.bool b,rfl,fun φ a=>by simp[ER]⟩
 | .big z,_=>⟨.big z,rfl,fun φ a=>by simp[ER]⟩
 | .nil,_=>⟨.nil,rfl,fun φ a=>by simp[ER]⟩
 | .tup l,h=>by
  simp only[pJ]at h;obtain⟨L,h1,h2⟩:=tP l h;refine⟨.tup L,by simpa [nY]using h1,fun φ a=>?_⟩
  simp only[ER];exact⟨fun⟨r,e,hr⟩=>by rw[e,(h2 φ r).1 hr],fun e=>⟨L,e,(h2 φ L).2 rfl⟩⟩
 | .agg l,h=>by
  simp only[pJ]at h;obtain⟨L,h1,h2⟩:=tP l h;refine⟨.agg L,by simpa [nY]using h1,fun φ a=>?_⟩
  simp only[ER];exact⟨fun⟨r,e,hr⟩=>by rw[e,(h2 φ r).1 hr],fun e=>⟨L,e,(h2 φ L).2 rfl⟩⟩
 | .sl ..,h=>by simp[pJ]at h
 | .ptr ..,h=>by simp[pJ]at h
 | .lst ..,h=>by simp[pJ]at h
 | .pat ..,h=>by simp[pJ]at h
 | .fn ..,h=>by simp[pJ]at h
 | .any,h=>by simp[pJ]at h
 | .nfn,h=>by simp[pJ]at h
 | .mfn ..,h=>by simp[pJ]at h
theorem tP:∀(l:List XV),Ag l=true->∃L:List AV,wu L=true/\∀(φ:Ph) (r:List AV),dZ φ l r↔r=L
 | [],_=>⟨[],rfl,fun φ r=>by cases r<;>simp[dZ]⟩
 | x::l,h=>by
  simp only[Ag,au]at h;obtain⟨z,h1,h2⟩:=C3 x h.1;obtain⟨L,h3,h4⟩:=tP l h.2;refine⟨z::L,by simp[wu,h1,h3],fun φ r=>?_⟩
  cases r with
  | nil=>simp[dZ]
  | cons a r=>simp only[dZ,List.cons.injEq,h2,h4]
end
def Ha(leaf:Nat->List XV->Option XV):Prop:=∀f args v,leaf f args=some v->((11<=f/\f<270)/\f≠252/\f≠253)/\∀φ as',dZ φ args as'->∃z,(∀ψ,ER ψ v z)/\PF f as' z
def Kf(tbl:Nat->Option XF):Prop:=∀f F,tbl f=some F->Jw f F
def J6:EL:=.n (some ac) .e .e
def C1(isL:Nat->Bool)(leaf:Nat->List XV->Option XV)(tbl:Nat->Option XF)(call:dh)(f:Nat)(args:List XV)(nx:Nat)(l:EL):XR:=match isL f with
  | true=>(match leaf f args with
   | some v=>some (v,nx,l)
   | ac=>ac)
  | false=>(match tbl f with
   | ac=>ac
   | some F=>(match xC f with
    | true=>(match wX call F args 1 J6 with
     | some (v,_,_)=>(match jV args&&pJ v with
      | true=>some (v,nx,l)
      | false=>ac)
     | ac=>ac)
    | false=>wX call F args nx l))
def sj(isL:Nat->Bool)(leaf:Nat->List XV->Option XV)(tbl:Nat->Option XF)(n:Nat):dh:=Nat.rec (motive:=fun _=>dh) (fun _ _ _ _=>ac) (fun _ ih=>C1 isL leaf tbl ih) n
theorem tG{isL:Nat->Bool}{leaf:Nat->List XV->Option XV}{tbl:Nat->Option XF}(f:Nat)(args:List XV)(nx:Nat)(l:EL):sj isL leaf tbl 0 f args nx l=ac:=rfl
theorem tH{isL:Nat->Bool}{leaf:Nat->List XV->Option XV}{tbl:Nat->Option XF}(n f:Nat)(args:List XV)(nx:Nat)(l:EL):sj isL leaf tbl (n+1) f args nx l=C1 isL leaf tbl (sj isL leaf tbl n) f args nx l:=rfl
theorem tI{isL:Nat->Bool}{leaf:Nat->List XV->Option XV}{tbl:Nat->Option XF}:∀n,rc (sj isL leaf tbl n)
 | 0=>fun f args nx l r _ h=>by rw[tG]at h;cases h
 | n+1=>fun f args nx l r hf h=>by
  simp only[tH,C1]at h ⊢
  cases hi:isL f with
  | true =>
   rw[hi]at h;dsimp only at h ⊢
   cases hl:leaf f args with
   | none=>rw[hl]at h;cases h
   | some v=>rw[hl]at h;cases h;exact⟨rfl,fun _ _=>rfl⟩
  | false =>
   rw[hi]at h;dsimp only at h ⊢
   cases ht:tbl f with
   | none=>rw[ht]at h;cases h
   | some F =>
    rw[ht,hf]at h;rw[hf];dsimp only at h ⊢
    cases hx:wX (sj isL leaf tbl n) F args 1 J6 with
    | none=>rw[hx]at h;cases h
    | some p =>
     obtain⟨v,q⟩:=p;rw[hx]at h;dsimp only at h ⊢
     cases hb:(jV args&&pJ v)with
     | false=>rw[hb]at h;cases h
     | true=>rw[hb]at h;cases h;exact⟨rfl,fun _ _=>rfl⟩
def φ0:Ph:=fun i=>if i=0 then some 0 else ac
theorem uI(i:Nat):dw J6 i=if i=0 then some ac else ac:=by
 unfold J6;rw[iy,uJ,uJ];split
 ·rfl
 ·split<;>rfl
theorem MR.empty:MR φ0 J6 St.none:=by
 refine⟨fun i hi=>?_,fun i X hi=>?_,fun i j X Y b hi=>?_⟩
 ·unfold φ0;rw[uI]at hi;by_cases e:i=0
  ·rw[if_pos e]at hi;cases hi
  ·rw[if_neg e]
 ·rw[uI]at hi;split at hi<;>cases hi
 ·rw[uI]at hi;split at hi<;>cases hi
theorem Ab{isL:Nat->Bool}{leaf:Nat->List XV->Option XV}{tbl:Nat->Option XF}(hL:Ha leaf)(hT:Kf tbl):∀n,kq (sj isL leaf tbl n)
 | 0=>fun f args nx l r h=>by rw[tG]at h;cases h
 | n+1=>fun f args nx l r h φ as' S K hG ha hm hK=>by
  have ih:=Ab hL hT (isL:=isL) n;simp only[tH,C1]at h
  cases hi:isL f with
  | true =>
   rw[hi]at h;dsimp only at h
   cases hl:leaf f args with
   | none=>rw[hl]at h;cases h
   | some v =>
    rw[hl]at h;cases h;obtain⟨h1,h2⟩:=hL f args v hl;obtain⟨z,h3,h4⟩:=h2 φ as' ha;exact⟨h1,h4.call (hK φ z S (Ph.le_refl _) (h3 φ) hm)⟩
  | false =>
   rw[hi]at h;dsimp only at h
   cases ht:tbl f with
   | none=>rw[ht]at h;cases h
   | some F =>
    rw[ht]at h;have hF:=hT f F ht;refine⟨hF.rng,?_⟩
    cases hpf:xC f with
    | false =>
     rw[hpf]at h;exact Ac ih (tI n) hF h hG ha hm hK
    | true =>
     rw[hpf]at h;dsimp only at h
     cases hx:wX (sj isL leaf tbl n) F args 1 J6 with
     | none=>rw[hx]at h;cases h
     | some p =>
      obtain⟨v,q⟩:=p;rw[hx]at h;dsimp only at h
      cases hb:(jV args&&pJ v)with
      | false=>rw[hb]at h;cases h
      | true =>
       rw[hb]at h;cases h;simp only[au]at hb;obtain⟨z,h1,h2⟩:=C3 v hb.2;have:PF f as' z:=PF.of_spec (Ac ih (tI n) hF hx (φ:=φ0) (by simp[GP,φ0]) (ll _ _ hb.1 ha) MR.empty fun ψ a S' _ h4 _=>by
        have:=(h2 ψ a).1 h4;subst this;exact VR.mf h1)
       exact this.call (hK φ z S (Ph.le_refl _) ((h2 φ z).2 rfl) hm)
end
theorem E0(x y c:Nat)(hc:c<=1)(w:World):(callFunc 252 #[.int .u64 x,.int .u64 y,.int .u64 c]).run Tryz.prog w =
   .ok (.value (.tuple #[.int .u64 (((x:Int)+y+c)%18446744073709551616),.int .u64 (((x:Int)+y+c)/18446744073709551616)])) w:=by
 rw[run_callFunc_extern Tryz.func252 (by kernel_rfl) (by kernel_rfl) (by kernel_rfl) (e:=add64Entry) (by kernel_rfl),run_add64 x y c om om om om]
 rfl
def Ky:Array Value->Sem Value:=fun args=>do
 let (x, y, b) <- Extern.MathBitsCarry.three "Sub64" args
 pure (Extern.MathBitsCarry.pair ((x+Extern.MathBitsCarry.m64-y-b)%Extern.MathBitsCarry.m64) (if x<y+b then 1 else 0))
theorem rB(x y b:Nat)(hb:b<=1)(w:World):(callFunc 253 #[.int .u64 x,.int .u64 y,.int .u64 b]).run Tryz.prog w =
   .ok (.value (.tuple #[.int .u64 (((x+18446744073709551616-y-b)%18446744073709551616:Nat):Int),.int .u64 ((if x<y+b then 1 else 0:Nat):Int)])) w:=by
 rw[run_callFunc_extern Tryz.func253 (by kernel_rfl) (by kernel_rfl) (by kernel_rfl) (e:=Ky) (by kernel_rfl)]
 have:b=0∨b=1:=by omega
 rcases this with rfl|rfl<;>rfl
theorem Cg(x y:Nat)(hx:x<4294967296)(hy:y<4294967296)(w:World):Calls Tryz.prog 251 #[.int .u64 x,.int .u64 y] w fun e w'=>e=.returned (.tuple #[.int .u64 0,.int .u64 ((x*y:Nat):Int)])/\w'=w:=by
 have hxy:x*y<18446744073709551616:=by
  have:=Nat.mul_le_mul (show x<=4294967295 by omega) (show y<=4294967295 by omega)
  omega
 go_enter Tryz.func251,Tryz.ntmps251
 go_wp2;have mask:∀a:Nat,a<4294967296->bits .and .u64 (a:Int) 4294967295=(a:Int):=fun a ha=>by
  have h:=bits_and_u64_nat a 4294967295 om om;have e:a &&& 4294967295=a%4294967296:=Nat.and_two_pow_sub_one_eq_mod a 32;rw[e,Nat.mod_eq_of_lt ha]at h;exact h
 have mx:=mask x hx;have my:=mask y hy;have dx:(x:Int)/4294967296=0:=by omega
 have dy:(y:Int)/4294967296=0:=by omega
 have w0:IntKind.u64.wrap 0=0:=rfl;have wP:IntKind.u64.wrap ((x:Int)*y)=((x*y:Nat):Int):=by rw[IntKind.wrap_u64,<-Int.natCast_mul];omega
 have dP:((x*y:Nat):Int)/4294967296=((x*y/4294967296:Nat):Int):=by omega
 have wQ:IntKind.u64.wrap ((x*y/4294967296:Nat):Int)=((x*y/4294967296:Nat):Int):=by rw[IntKind.wrap_u64];omega
 have mQ:=mask (x*y/4294967296) om;have dQ:((x*y/4294967296:Nat):Int)/4294967296=0:=by omega
 simp only[mx,my,dx,dy,Int.zero_mul,Int.mul_zero,w0,Int.zero_add,Int.add_zero,wP,dP,wQ,mQ,dQ];go_ret2;exact⟨rfl,rfl⟩
theorem DP(x y:Nat)(h:x+y<18446744073709551616)(w:World):(callFunc 252 #[.int .u64 x,.int .u64 y,.int .u64 0]).run Tryz.prog w=.ok (.value (.tuple #[.int .u64 ((x+y:Nat):Int),.int .u64 0])) w:=by
 have:=E0 x y 0 om w;rw[show((x:Int)+y+(0:Nat))%18446744073709551616=((x+y:Nat):Int) by omega,show((x:Int)+y+(0:Nat))/18446744073709551616=0 by omega]at this
 exact this
theorem Jo(w:World):(callFunc 252 #[.int .u64 0,.int .u64 0,.int .u64 0]).run Tryz.prog w=.ok (.value (.tuple #[.int .u64 0,.int .u64 0])) w:=DP 0 0 om w
theorem D6(s x y:Nat)(hx:x<4294967296)(hy:y<4294967296)(hs:s+x*y<18446744073709551616)(w:World):Calls Tryz.prog 215 #[.agg #[.int .u64 0,.int .u64 s],.int .u64 x,.int .u64 y] w fun e w'=>e=.returned (.agg #[.int .u64 0,.int .u64 ((s+x*y:Nat):Int)])/\Below w.heap.size w w':=by
 have hm:=Cg x y hx hy;generalize x*y=P at hm hs ⊢;have e1:=DP s P hs
 go_enter Tryz.func215,Tryz.ntmps215
 go_wp2_with fail
 refine(hm _).mono ?_;rintro e w' ⟨rfl,hw'⟩;rw[hw']
 go_wp2_with (simp only[Jo])
 refine bodyPost_ret (v:=.agg #[.int .u64 0,.int .u64 ((s:Int)+P)]) (by simp[results,Tryz.results215,go_sem]) rfl ⟨by rw[Int.natCast_add],((aX _ w).alloc (ah _) _).alloc (by simp) _⟩
theorem Da(x y:Nat)(hx:x<18446744073709551616)(h:y<=x)(w:World):(callFunc 253 #[.int .u64 x,.int .u64 y,.int .u64 0]).run Tryz.prog w=.ok (.value (.tuple #[.int .u64 ((x-y:Nat):Int),.int .u64 0])) w:=by
 have:=rB x y 0 om w;rw[show(x+18446744073709551616-y-0)%18446744073709551616=x-y by omega,if_neg om]at this
 exact this
theorem Ij(x y:Nat)(hy:y<18446744073709551616)(h:x<y)(w:World):(callFunc 253 #[.int .u64 x,.int .u64 y,.int .u64 0]).run Tryz.prog w=.ok (.value (.tuple #[.int .u64 ((x+18446744073709551616-y:Nat):Int),.int .u64 1])) w:=by
 have:=rB x y 0 om w;rw[show(x+18446744073709551616-y-0)%18446744073709551616=x+18446744073709551616-y by omega,if_pos om]at this
 exact this
theorem Il(w:World):(callFunc 253 #[.int .u64 0,.int .u64 0,.int .u64 0]).run Tryz.prog w=.ok (.value (.tuple #[.int .u64 0,.int .u64 0])) w:=Da 0 0 om om w
theorem Ik(w:World):(callFunc 253 #[.int .u64 0,.int .u64 0,.int .u64 1]).run Tryz.prog w=.ok (.value (.tuple #[.int .u64 18446744073709551615,.int .u64 1])) w:=rB 0 0 1 om w
theorem Af(x y:Nat)(hx:x<4611686018427387904)(h:y<=x)(w:World):Calls Tryz.prog 216 #[.agg #[.int .u64 0,.int .u64 x],.agg #[.int .u64 0,.int .u64 y]] w fun e w'=>e=.returned (.tuple #[.int .i64 ((x-y:Nat):Int),.bool true])/\Below w.heap.size w w':=by
 have e1:=Da x y om h;have hk:x-y<4611686018427387904:=by omega
 generalize x-y=P at e1 hk ⊢;have h1:¬(4611686018427387904:Int)<P:=by omega
 have w1:IntKind.i64.wrap (P:Int)=P:=by rw[IntKind.wrap_i64];omega
 go_enter Tryz.func216,Tryz.ntmps216
 go_wp2_with (simp only[Il])
 go_ret2;exact⟨rfl,((aX _ w).alloc (ah _) _).alloc (by simp) _⟩
theorem yi(x y:Nat)(hy:y<4611686018427387904)(h:x<y)(w:World):Calls Tryz.prog 216 #[.agg #[.int .u64 0,.int .u64 x],.agg #[.int .u64 0,.int .u64 y]] w fun e w'=>e=.returned (.tuple #[.int .i64 0,.bool false])/\Below w.heap.size w w':=by
 have e1:=Ij x y om h;generalize x+18446744073709551616-y=P at e1
 go_enter Tryz.func216,Tryz.ntmps216
 go_wp2_with (simp only[Ik])
 go_ret2;exact⟨rfl,((aX _ w).alloc (ah _) _).alloc (by simp) _⟩
theorem tN{w:World}{M:Nat->Prop}{a b:Int}{v:Value}(h:a8 w M (.agg [.int .u64 a,.int .u64 b]) v):v=.agg #[.int .u64 a,.int .u64 b]:=by
 simp only[a8]at h;obtain⟨vs,rfl,h⟩:=h
 match vs,h with
 | [x,y],h =>
  simp only[a6,a8]at h;obtain⟨rfl,rfl,_⟩:=h;simp[Value.cells]
 | [],h=>simp[a6]at h
 | [_],h=>simp[a6]at h
 | _::_::_::_,h=>simp[a6]at h
theorem H7(w:World)(M:Nat->Prop)(a b:Int):a8 w M (.agg [.int .u64 a,.int .u64 b]) (.agg #[.int .u64 a,.int .u64 b]):=by
 simp only[a8];exact⟨[.int .u64 a,.int .u64 b],by simp[Value.cells],by simp[a6,a8]⟩
theorem H8{s x y:Nat}(hx:x<4294967296)(hy:y<4294967296)(hs:s+x*y<18446744073709551616):PF 215 [.agg [.int .u64 0,.int .u64 s],.int .u64 x,.int .u64 y] (.agg [.int .u64 0,.int .u64 ((s+x*y:Nat):Int)]):=by
 intro w vs hr
 match vs,hr with
 | [a,b,c],hr =>
  simp only[a6]at hr;obtain⟨h1,h2,h3,_⟩:=hr;obtain rfl:=tN h1;simp only[a8]at h2 h3;subst h2;subst h3;refine(D6 s x y hx hy hs w).mono ?_;rintro e w' ⟨rfl,hb⟩;exact⟨_,rfl,H7 _ _ _ _,co.below hb⟩
 | [],hr=>simp[a6]at hr
 | [_],hr=>simp[a6]at hr
 | [_,_],hr=>simp[a6]at hr
 | _::_::_::_::_,hr=>simp[a6]at hr
theorem JR{x y:Nat}{z:Int}{b:Bool}(h:∀w,Calls Tryz.prog 216 #[.agg #[.int .u64 0,.int .u64 x],.agg #[.int .u64 0,.int .u64 y]] w fun e w'=>e=.returned (.tuple #[.int .i64 z,.bool b])/\Below w.heap.size w w'):PF 216 [.agg [.int .u64 0,.int .u64 x],.agg [.int .u64 0,.int .u64 y]] (.tup [.int .i64 z,.bool b]):=by
 intro w vs hr
 match vs,hr with
 | [a,c],hr =>
  simp only[a6]at hr;obtain⟨h1,h2,_⟩:=hr;obtain rfl:=tN h1;obtain rfl:=tN h2;refine(h w).mono ?_;rintro e w' ⟨rfl,hb⟩;refine⟨_,rfl,?_,co.below hb⟩;simp only[a8];exact⟨[.int .i64 z,.bool b],by simp,by simp[a6,a8]⟩
 | [],hr=>simp[a6]at hr
 | [_],hr=>simp[a6]at hr
 | _::_::_::_,hr=>simp[a6]at hr
theorem D4{x y:Nat}(hx:x<4611686018427387904)(h:y<=x):PF 216 [.agg [.int .u64 0,.int .u64 x],.agg [.int .u64 0,.int .u64 y]] (.tup [.int .i64 ((x-y:Nat):Int),.bool true]):=JR (Af x y hx h)
theorem D5{x y:Nat}(hy:y<4611686018427387904)(h:x<y):PF 216 [.agg [.int .u64 0,.int .u64 x],.agg [.int .u64 0,.int .u64 y]] (.tup [.int .i64 0,.bool false]):=JR (yi x y hy h)
noncomputable section
def smx(z:Int):Bool:=aJ z.natAbs 18446744073709551616
theorem BU{z:Int}(h:smx z=true):nb z 64:=by
 unfold smx at h;rw[oU]at h;unfold nb;omega
def KP(op:Int->Int->Option XV):List XV->Option XV
 | [.big a,.big b]=>(match smx a&&smx b with
  | true=>op a b
  | false=>ac)
 | _=>ac
def LX(op:Int->Option XV):List XV->Option XV
 | [.big a]=>(match smx a with
  | true=>op a
  | false=>ac)
 | _=>ac
def LFX(f:Nat)(args:List XV)(v:XV):Prop:=∀φ as',dZ φ args as'->∃z,(∀ψ,ER ψ v z)/\PF f as' z
theorem uK{f:Nat}{op:Int->Int->Option XV}(hop:∀a b v,nb a 64->nb b 64->op a b=some v->∃z,(∀ψ,ER ψ v z)/\PF f [.big a,.big b] z){args:List XV}{v:XV}(h:KP op args=some v):LFX f args v:=by
 unfold KP at h;split at h
 ·rename_i a b;split at h
  ·rename_i hs;simp only[au]at hs;intro φ as' ha
   match as',ha with
   | [x,y],ha =>
    simp only[dZ,ER]at ha;obtain⟨rfl,rfl,_⟩:=ha;exact hop a b v (BU hs.1) (BU hs.2) h
   | [],ha=>simp[dZ]at ha
   | [_],ha=>simp[dZ]at ha
   | _::_::_::_,ha=>simp[dZ]at ha
  ·cases h
 ·cases h
theorem yP{f:Nat}{op:Int->Option XV}(hop:∀a v,nb a 64->op a=some v->∃z,(∀ψ,ER ψ v z)/\PF f [.big a] z){args:List XV}{v:XV}(h:LX op args=some v):LFX f args v:=by
 unfold LX at h;split at h
 ·rename_i a;split at h
  ·rename_i hs;intro φ as' ha
   match as',ha with
   | [x],ha =>
    simp only[dZ,ER]at ha;obtain⟨rfl,_⟩:=ha;exact hop a v (BU hs) h
   | [],ha=>simp[dZ]at ha
   | _::_::_,ha=>simp[dZ]at ha
  ·cases h
 ·cases h
def I9(a:Int):Bool:=decide (-9223372036854775808<=a)&&decide (a<=9223372036854775807)
def DB:List XV->Option XV
 | [.int .i64 a]=>(match I9 a with
  | true=>some (.big a)
  | false=>ac)
 | _=>ac
def Gf:List XV->Option XV
 | [.agg [.int .u64 (.ofNat h),.int .u64 (.ofNat s)],.int .u64 (.ofNat x),.int .u64 (.ofNat y)]=>(match ap h 0&&aJ x 4294967296&&aJ y 4294967296&&aJ (s+x*y) 18446744073709551616 with
  | true=>some (.agg [.int .u64 0,.int .u64 (.ofNat (s+x*y))])
  | false=>ac)
 | _=>ac
def AI:List XV->Option XV
 | [.agg [.int .u64 (.ofNat h),.int .u64 (.ofNat s)],.agg [.int .u64 (.ofNat h'),.int .u64 (.ofNat s')]]=>(match ap h 0&&ap h' 0&&aJ s 4611686018427387904&&aJ s' 4611686018427387904 with
  | true=>(match gZ s' s with
   | true=>some (.tup [.int .i64 (.ofNat (s-s')),.bool true])
   | false=>some (.tup [.int .i64 0,.bool false]))
  | false=>ac)
 | _=>ac
def FA(f:Nat)(args:List XV):Option XV :=
 match ap f 133 with
 | true=>KP (fun a b=>some (.big (a+b))) args
 | false=>match ap f 83 with
 | true=>KP (fun a b=>some (.big (a*b))) args
 | false=>match ap f 192 with
 | true=>KP (fun a b=>some (.big (a-b))) args
 | false=>match ap f 82 with
 | true=>KP (fun a b=>match decide (b=0)with
  | true=>ac
  | false=>some (.tup [.big (a/b),.big (a%b),.bool true])) args
 | false=>match ap f 159 with
 | true=>KP (fun a b=>some (.int .i64 (lJ a b))) args
 | false=>match ap f 193 with
 | true=>LX (fun a=>some (.big (-a))) args
 | false=>match ap f 157 with
 | true=>LX (fun a=>some (.big a)) args
 | false=>match ap f 191 with
 | true=>LX (fun a=>some (.int .i64 a.sign)) args
 | false=>match ap f 84 with
 | true=>LX (fun a=>match I9 a with
  | true=>some (.tup [.int .i64 a,.bool true])
  | false=>ac) args
 | false=>match ap f 81 with
 | true=>DB args
 | false=>match ap f 215 with
 | true=>Gf args
 | false=>match ap f 216 with
 | true=>AI args
 | false=>ac
def Gg:Nat:=2^133 ||| 2^83 ||| 2^192 ||| 2^82 ||| 2^159 ||| 2^193 ||| 2^157 ||| 2^191 ||| 2^84 ||| 2^81 ||| 2^215 ||| 2^216
def KT(f:Nat):Bool:=Nat.testBit Gg f
theorem yT{a:Int}(h:I9 a=true):-9223372036854775808<=a/\a<=9223372036854775807:=by
 simpa [I9]using h
theorem Fz:Ha FA:=by
 intro f args v h;have big:∀(z:Int) (ψ:Ph),ER ψ (.big z) (.big z):=fun z ψ=>by simp[ER]
 have int:∀(k:IntKind) (z:Int) (ψ:Ph),ER ψ (.int k z) (.int k z):=fun k z ψ=>by simp[ER]
 have key:((11<=f/\f<270)/\f≠252/\f≠253)/\LFX f args v:=by
  unfold FA at h
  repeat' (split at h)
  all_goals first
   | (rename_i e;obtain rfl:=ao e;refine⟨by decide,?_⟩)
   | cases h
  ·exact uK (fun a b v ha hb h=>by cases h;exact⟨_,big _,rW ha hb (by decide)⟩) h
  ·exact uK (fun a b v ha hb h=>by cases h;exact⟨_,big _,np ha hb (by decide)⟩) h
  ·exact uK (fun a b v ha hb h=>by cases h;exact⟨_,big _,yr ha hb (by decide)⟩) h
  ·refine uK (fun a b v ha hb h=>?_) h;split at h
   ·cases h
   ·rename_i hd
    cases h
    exact⟨.tup [.big (a/b),.big (a%b),.bool true],fun ψ=>by simp[ER,dZ],kc ha hb (by decide) (by simpa using hd) (Or.inr ha)⟩
  ·exact uK (fun a b v ha hb h=>by cases h;exact⟨_,int _ _,GO ha hb (by decide)⟩) h
  ·exact yP (fun a v ha h=>by cases h;exact⟨_,big _,pS ha (by decide)⟩) h
  ·exact yP (fun a v ha h=>by cases h;exact⟨_,big _,qr ha (by decide)⟩) h
  ·exact yP (fun a v ha h=>by cases h;exact⟨_,int _ _,jh ha (by decide)⟩) h
  ·refine yP (fun a v ha h=>?_) h;split at h
   ·rename_i hd
    cases h
    exact⟨.tup [.int .i64 a,.bool true],fun ψ=>by simp[ER,dZ],AJ (yT hd)⟩
   ·cases h
  ·unfold DB at h;split at h
   ·rename_i a;split at h
    ·rename_i hd
     cases h
     intro φ as' ha
     match as',ha with
     | [x],ha =>
      simp only[dZ,ER]at ha;obtain⟨rfl,_⟩:=ha;exact⟨_,big _,ju (yT hd).1 (yT hd).2⟩
     | [],ha=>simp[dZ]at ha
     | _::_::_,ha=>simp[dZ]at ha
    ·cases h
   ·cases h
  ·unfold Gf at h;split at h
   ·rename_i hi s x y;split at h
    ·rename_i hd;simp only[au,oU]at hd
     cases h
     intro φ as' ha
     match as',ha with
     | [u,v,w],ha =>
      simp only[dZ,ER]at ha;obtain⟨⟨R,rfl,hR⟩,rfl,rfl,_⟩:=ha
      match R,hR with
      | [p,q],hR =>
       simp only[dZ,ER]at hR;obtain⟨rfl,rfl,_⟩:=hR;obtain rfl:=ao hd.1.1.1;exact⟨.agg [.int .u64 0,.int .u64 (.ofNat (s+x*y))],fun ψ=>by simp[ER,dZ],H8 hd.1.1.2 hd.1.2 hd.2⟩
      | [],hR=>simp[dZ]at hR
      | [_],hR=>simp[dZ]at hR
      | _::_::_::_,hR=>simp[dZ]at hR
     | [],ha=>simp[dZ]at ha
     | [_],ha=>simp[dZ]at ha
     | [_,_],ha=>simp[dZ]at ha
     | _::_::_::_::_,ha=>simp[dZ]at ha
    ·cases h
   ·cases h
  ·unfold AI at h;split at h
   ·rename_i h1 s h2 s';split at h
    ·rename_i hd;simp only[au,oU]at hd;intro φ as' ha
     match as',ha with
     | [u,w],ha =>
      simp only[dZ,ER]at ha;obtain⟨⟨R,rfl,hR⟩,⟨R',rfl,hR'⟩,_⟩:=ha
      match R,R',hR,hR' with
      | [p,q],[p',q'],hR,hR' =>
       simp only[dZ,ER]at hR hR';obtain⟨rfl,rfl,_⟩:=hR;obtain⟨rfl,rfl,_⟩:=hR';obtain rfl:=ao hd.1.1.1;obtain rfl:=ao hd.1.1.2;split at h
       ·rename_i hle
        cases h
        exact⟨.tup [.int .i64 (.ofNat (s-s')),.bool true],fun ψ=>by simp[ER,dZ],D4 hd.1.2 (bU hle)⟩
       ·rename_i hle
        cases h
        exact⟨.tup [.int .i64 0,.bool false],fun ψ=>by simp[ER,dZ],D5 hd.2 (by
         rcases Nat.lt_or_ge s s' with h|h
         ·exact h
         ·rw[Nat.ble_eq_true_of_le h]at hle;cases hle)⟩
      | [],_,hR,_=>simp[dZ]at hR
      | [_],_,hR,_=>simp[dZ]at hR
      | _::_::_::_,_,hR,_=>simp[dZ]at hR
      | [_,_],[],_,hR=>simp[dZ]at hR
      | [_,_],[_],_,hR=>simp[dZ]at hR
      | [_,_],_::_::_::_,_,hR=>simp[dZ]at hR
     | [],ha=>simp[dZ]at ha
     | [_],ha=>simp[dZ]at ha
     | _::_::_::_,ha=>simp[dZ]at ha
    ·cases h
   ·cases h
 exact key
end
end Go.Proofs.YtdobfmlmenaajaaGreatDoor
