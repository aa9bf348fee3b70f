/-
  Lemmas for NeighbourIndex.
-/
import Derived.Test.YtdobfmlmenaajaaGreatDoorJ08
import Derived.Test.YtdobfmlmenaajaaGreatDoorJ09
import Derived.Laws.Externs
import Derived.Laws.Bits64b
namespace Go.Proofs.YtdobfmlmenaajaaGreatDoor
open Go.RowKit Tryz
open Below renaming refl→a8
open _root_.Bool renaming and_eq_true→aA
open _root_.List renaming getD_eq_getElem?_getD→ir
open _root_.Nat renaming le_refl→ah,eq_of_beq_eq_true→ap,beq→ay,blt→aO,le_of_ble_eq_true→cb,ble→ix,blt_eq→pA
open _root_.Option renaming none→ac
open Tryz renaming prog→aj
set_option maxHeartbeats 6400000
set_option maxRecDepth 4096
set_option linter.all false
noncomputable section
def xf:List ResultVar->TE->EL->Option (List XV)
 | [],_,_=>some []
 | .tmp t::r,te,l=>(match xf r te l with
  | some L=>some (iT te t::L)
  | ac=>ac)
 | .cell p ty::r,te,l=>(match tf ty (iT te p) l with
  | some v=>(match xf r te l with
   | some L=>some (v::L)
   | ac=>ac)
  | ac=>ac)
theorem y5{φ:Ph}{te:TE}{O:Tm}{l:EL}{S:St}(ht:TR φ te O)(hm:MR φ l S):∀{rs:List ResultVar} {L:List XV} {K:List AV->Prop},xf rs te l=some L->(∀L',eD φ L L'->K L')->tS rs O S K
 | [],L,K,h,hK=>by
  simp only[xf]at h;cases h;exact hK [] (by simp[eD])
 | .tmp t::r,L,K,h,hK=>by
  simp only[xf]at h
  cases hr:xf r te l with
  | none=>rw[hr]at h;cases h
  | some L1 =>
   rw[hr]at h;cases h;exact y5 (rs:=r) (K:=fun l=>K (O t::l)) ht hm hr fun L' hL=>hK _ (by simp only[eD];exact⟨ht t,hL⟩)
 | .cell p ty::r,L,K,h,hK=>by
  simp only[xf]at h
  cases hx:tf ty (iT te p) l with
  | none=>rw[hx]at h;cases h
  | some v =>
   rw[hx]at h
   cases hr:xf r te l with
   | none=>rw[hr]at h;cases h
   | some L1 =>
    rw[hr]at h;cases h;exact AU hx (ht p) hm fun z hz=>y5 (rs:=r) (K:=fun l=>K (z::l)) ht hm hr fun L' hL=>hK _ (by simp only[eD];exact⟨hz,hL⟩)
def Ht:List XV->XV
 | [x]=>x
 | l=>.tup l
theorem J0{φ:Ph}{L:List XV}{L':List AV}(h:eD φ L L'):ER φ (Ht L) (oU L'):=by
 match L,L',h with
 | [],[],h=>simp only[Ht,oU,ER];exact⟨_,rfl,h⟩
 | [x],[a],h=>simp only[eD]at h;exact h.1
 | x::y::L,a::b::L',h=>simp only[Ht,oU,ER];exact⟨_,rfl,h⟩
 | [],_::_,h=>simp[eD]at h
 | _::_,[],h=>simp[eD]at h
 | [_],_::_::_,h=>simp[eD]at h
 | _::_::_,[_],h=>simp[eD]at h
structure XF where
 code:Code
 res:List ResultVar
 N:Nat
 hm:Nat
def xX(call:dC)(F:XF)(args:List XV)(nx:Nat)(l:EL):XR:=match ix args.length F.N with
 | true=>(match li call F.hm 5000 F.code (vB args) nx l with
  | some (e,te,nx',l')=>(match e with
   | .exit _=>ac
   | _=>match xf F.res te l' with
    | some L=>some (Ht L,nx',l')
    | ac=>ac)
  | ac=>ac)
 | false=>ac
structure Ko(f:Nat)(F:XF):Prop where
 rng:(11<=f/\f<270)/\f≠252/\f≠253
 fn:∃fn,aj.funcs[f]? = some fn/\fn.body=some F.code/\fn.results.toList=F.res/\fn.ntmps=F.N
 code:iE F.N F.code=true
 regs:jp F.hm F.code=true
theorem Lv{φ:Ph}{args:List XV}{as':List AV}(h:eD φ args as'):TR φ (vB args) (E5 as'):=fun t=>by
 rw[CZ];unfold E5;rw[ir,ir]
 cases e:args[t]? with
 | some x =>
  obtain⟨a,h1,h2⟩:=h.get e;rw[h1];exact h2
 | none=>simp[ER]
theorem A0{call:dC}(hc:kY call)(hp:rV call){f:Nat}{F:XF}(hF:Ko f F){args:List XV}{nx:Nat}{l:EL}{r:XV×Nat×EL}(h:xX call F args nx l=some r){φ:Ph}(hG:GP φ){as':List AV}(ha:eD φ args as'){S:St}(hm:MR φ l S){K:AV->St->Prop}(hK:XK φ r.1 r.2.2 K):cS f as' S K:=by
 obtain⟨fn,h1,h2,h3,h4⟩:=hF.fn;unfold xX at h;split at h
 ·rename_i hlen;split at h
  ·rename_i e te nx' l' hx;have hlen':as'.length<=F.N:=by rw[ha.length];exact cb hlen
   refine mO h1 h2 F.N h4 hF.code hlen' ?_;refine Gu hc hp F.hm 5000 F.code (vB args) nx l _ hF.regs hx hG (Lv ha) hm fun ψ O' S' k1 k2 k3=>?_;rw[h3];have fin:∀{L},xf F.res te l'=some L->r=(Ht L,nx',l')->tS F.res O' S' (fun l=>K (oU l) S'):=fun hL e=>by
    subst e;exact y5 k2 k3 hL fun L' hL'=>hK ψ _ S' k1 (J0 hL') k3
   cases e with
   | exit i=>cases h
   | normal =>
    dsimp only at h;split at h
    ·rename_i L hL;cases h;exact fin hL rfl
    ·cases h
   | ret =>
    dsimp only at h;split at h
    ·rename_i L hL;cases h;exact fin hL rfl
    ·cases h
  ·cases h
 ·cases h
mutual
def qu:XV->Bool
 | .int ..=>true
 | .bool _=>true
 | .big _=>true
 | .nil=>true
 | .tup l=>Bc l
 | .agg l=>Bc l
 | _=>false
def Bc:List XV->Bool
 | []=>true
 | x::l=>qu x&&Bc l
end
mutual
theorem DT:∀(x:XV),qu x=true->∃z:AV,oG z=true/\∀(φ:Ph) (a:AV),ER φ x a↔a=z
 | .int k n,_=>⟨.int k n,rfl,fun φ a=>by simp[ER]⟩
 | .bool b,_=>⟨.bool b,rfl,fun φ a=>by simp[ER]⟩
 | .big z,_=>⟨.big z,rfl,fun φ a=>by simp[ER]⟩
 | .nil,_=>⟨.nil,rfl,fun φ a=>by simp[ER]⟩
 | .tup l,h=>by
  simp only[qu]at h;obtain⟨L,h1,h2⟩:=uI l h;refine⟨.tup L,by simpa [oG]using h1,fun φ a=>?_⟩
  simp only[ER];exact⟨fun⟨r,e,hr⟩=>by rw[e,(h2 φ r).1 hr],fun e=>⟨L,e,(h2 φ L).2 rfl⟩⟩
 | .agg l,h=>by
  simp only[qu]at h;obtain⟨L,h1,h2⟩:=uI l h;refine⟨.agg L,by simpa [oG]using h1,fun φ a=>?_⟩
  simp only[ER];exact⟨fun⟨r,e,hr⟩=>by rw[e,(h2 φ r).1 hr],fun e=>⟨L,e,(h2 φ L).2 rfl⟩⟩
 | .sl ..,h=>by simp[qu]at h
 | .ptr ..,h=>by simp[qu]at h
 | .lst ..,h=>by simp[qu]at h
 | .pat ..,h=>by simp[qu]at h
 | .fn ..,h=>by simp[qu]at h
 | .any,h=>by simp[qu]at h
 | .nfn,h=>by simp[qu]at h
 | .mfn ..,h=>by simp[qu]at h
theorem uI:∀(l:List XV),Bc l=true->∃L:List AV,xv L=true/\∀(φ:Ph) (r:List AV),eD φ l r↔r=L
 | [],_=>⟨[],rfl,fun φ r=>by cases r<;>simp[eD]⟩
 | x::l,h=>by
  simp only[Bc,aA]at h;obtain⟨z,h1,h2⟩:=DT x h.1;obtain⟨L,h3,h4⟩:=uI l h.2;refine⟨z::L,by simp[xv,h1,h3],fun φ r=>?_⟩
  cases r with
  | nil=>simp[eD]
  | cons a r=>simp only[eD,List.cons.injEq,h2,h4]
end
def Iq(leaf:Nat->List XV->Option XV):Prop:=∀f args v,leaf f args=some v->((11<=f/\f<270)/\f≠252/\f≠253)/\∀φ as',eD φ args as'->∃z,(∀ψ,ER ψ v z)/\PF f as' z
def Lf(tbl:Nat->Option XF):Prop:=∀f F,tbl f=some F->Ko f F
def K0:EL:=.n (some ac) .e .e
def DS(isL:Nat->Bool)(leaf:Nat->List XV->Option XV)(tbl:Nat->Option XF)(call:dC)(f:Nat)(args:List XV)(nx:Nat)(l:EL):XR:=match isL f with
  | true=>(match leaf f args with
   | some v=>some (v,nx,l)
   | ac=>ac)
  | false=>(match tbl f with
   | ac=>ac
   | some F=>(match yq f with
    | true=>(match xX call F args 1 K0 with
     | some (v,_,_)=>(match kH args&&qu v with
      | true=>some (v,nx,l)
      | false=>ac)
     | ac=>ac)
    | false=>xX call F args nx l))
def tg(isL:Nat->Bool)(leaf:Nat->List XV->Option XV)(tbl:Nat->Option XF)(n:Nat):dC:=Nat.rec (motive:=fun _=>dC) (fun _ _ _ _=>ac) (fun _ ih=>DS isL leaf tbl ih) n
theorem uz{isL:Nat->Bool}{leaf:Nat->List XV->Option XV}{tbl:Nat->Option XF}(f:Nat)(args:List XV)(nx:Nat)(l:EL):tg isL leaf tbl 0 f args nx l=ac:=rfl
theorem uA{isL:Nat->Bool}{leaf:Nat->List XV->Option XV}{tbl:Nat->Option XF}(n f:Nat)(args:List XV)(nx:Nat)(l:EL):tg isL leaf tbl (n+1) f args nx l=DS isL leaf tbl (tg isL leaf tbl n) f args nx l:=rfl
theorem uB{isL:Nat->Bool}{leaf:Nat->List XV->Option XV}{tbl:Nat->Option XF}:∀n,rV (tg isL leaf tbl n)
 | 0=>fun f args nx l r _ h=>by rw[uz]at h;cases h
 | n+1=>fun f args nx l r hf h=>by
  simp only[uA,DS]at h ⊢
  cases hi:isL f with
  | true =>
   rw[hi]at h;dsimp only at h ⊢
   cases hl:leaf f args with
   | none=>rw[hl]at h;cases h
   | some v=>rw[hl]at h;cases h;exact⟨rfl,fun _ _=>rfl⟩
  | false =>
   rw[hi]at h;dsimp only at h ⊢
   cases ht:tbl f with
   | none=>rw[ht]at h;cases h
   | some F =>
    rw[ht,hf]at h;rw[hf];dsimp only at h ⊢
    cases hx:xX (tg isL leaf tbl n) F args 1 K0 with
    | none=>rw[hx]at h;cases h
    | some p =>
     obtain⟨v,q⟩:=p;rw[hx]at h;dsimp only at h ⊢
     cases hb:(kH args&&qu v)with
     | false=>rw[hb]at h;cases h
     | true=>rw[hb]at h;cases h;exact⟨rfl,fun _ _=>rfl⟩
def φ0:Ph:=fun i=>if i=0 then some 0 else ac
theorem vL(i:Nat):dM K0 i=if i=0 then some ac else ac:=by
 unfold K0;rw[iU,vM,vM];split
 ·rfl
 ·split<;>rfl
theorem MR.empty:MR φ0 K0 St.none:=by
 refine⟨fun i hi=>?_,fun i X hi=>?_,fun i j X Y b hi=>?_⟩
 ·unfold φ0;rw[vL]at hi;by_cases e:i=0
  ·rw[if_pos e]at hi;cases hi
  ·rw[if_neg e]
 ·rw[vL]at hi;split at hi<;>cases hi
 ·rw[vL]at hi;split at hi<;>cases hi
theorem AZ{isL:Nat->Bool}{leaf:Nat->List XV->Option XV}{tbl:Nat->Option XF}(hL:Iq leaf)(hT:Lf tbl):∀n,kY (tg isL leaf tbl n)
 | 0=>fun f args nx l r h=>by rw[uz]at h;cases h
 | n+1=>fun f args nx l r h φ as' S K hG ha hm hK=>by
  have ih:=AZ hL hT (isL:=isL) n;simp only[uA,DS]at h
  cases hi:isL f with
  | true =>
   rw[hi]at h;dsimp only at h
   cases hl:leaf f args with
   | none=>rw[hl]at h;cases h
   | some v =>
    rw[hl]at h;cases h;obtain⟨h1,h2⟩:=hL f args v hl;obtain⟨z,h3,h4⟩:=h2 φ as' ha;exact⟨h1,h4.call (hK φ z S (Ph.le_refl _) (h3 φ) hm)⟩
  | false =>
   rw[hi]at h;dsimp only at h
   cases ht:tbl f with
   | none=>rw[ht]at h;cases h
   | some F =>
    rw[ht]at h;have hF:=hT f F ht;refine⟨hF.rng,?_⟩
    cases hpf:yq f with
    | false =>
     rw[hpf]at h;exact A0 ih (uB n) hF h hG ha hm hK
    | true =>
     rw[hpf]at h;dsimp only at h
     cases hx:xX (tg isL leaf tbl n) F args 1 K0 with
     | none=>rw[hx]at h;cases h
     | some p =>
      obtain⟨v,q⟩:=p;rw[hx]at h;dsimp only at h
      cases hb:(kH args&&qu v)with
      | false=>rw[hb]at h;cases h
      | true =>
       rw[hb]at h;cases h;simp only[aA]at hb;obtain⟨z,h1,h2⟩:=DT v hb.2;have:PF f as' z:=PF.of_spec (A0 ih (uB n) hF hx (φ:=φ0) (by simp[GP,φ0]) (lS _ _ hb.1 ha) MR.empty fun ψ a S' _ h4 _=>by
        have:=(h2 ψ a).1 h4;subst this;exact VR.mf h1)
       exact this.call (hK φ z S (Ph.le_refl _) ((h2 φ z).2 rfl) hm)
end
theorem FQ(x y c:Nat)(hc:c<=1)(w:World):(callFunc 252 #[.int .u64 x,.int .u64 y,.int .u64 c]).run aj w =
   .ok (.value (.tuple #[.int .u64 (((x:Int)+y+c)%18446744073709551616),.int .u64 (((x:Int)+y+c)/18446744073709551616)])) w:=by
 rw[run_callFunc_extern func252 kr kr kr (e:=add64Entry) kr,run_add64 x y c om om om om]
 rfl
def Lx:Array Value->Sem Value:=fun args=>do
 let (x, y, b) <- Extern.MathBitsCarry.three "Sub64" args
 pure (Extern.MathBitsCarry.pair ((x+Extern.MathBitsCarry.m64-y-b)%Extern.MathBitsCarry.m64) (if x<y+b then 1 else 0))
theorem su(x y b:Nat)(hb:b<=1)(w:World):(callFunc 253 #[.int .u64 x,.int .u64 y,.int .u64 b]).run aj w =
   .ok (.value (.tuple #[.int .u64 (((x+18446744073709551616-y-b)%18446744073709551616:Nat):Int),.int .u64 ((if x<y+b then 1 else 0:Nat):Int)])) w:=by
 rw[run_callFunc_extern func253 kr kr kr (e:=Lx) kr]
 have:b=0∨b=1:=om
 rcases this with rfl|rfl<;>rfl
theorem C5(x y:Nat)(hx:x<4294967296)(hy:y<4294967296)(w:World):Calls aj 251 #[.int .u64 x,.int .u64 y] w fun e w'=>e=.returned (.tuple #[.int .u64 0,.int .u64 ((x*y:Nat):Int)])/\w'=w:=by
 have hxy:x*y<18446744073709551616:=by
  have:=Nat.mul_le_mul (om:x<=4294967295) (om:y<=4294967295)
  omega
 go_enter func251,ntmps251
 go_wp2;have mask:∀a:Nat,a<4294967296->bits .and .u64 (a:Int) 4294967295=(a:Int):=fun a ha=>by
  have h:=bits_and_u64_nat a 4294967295 om om;have e:a &&& 4294967295=a%4294967296:=Nat.and_two_pow_sub_one_eq_mod a 32;rw[e,Nat.mod_eq_of_lt ha]at h;exact h
 have mx:=mask x hx;have my:=mask y hy;have dx:(x:Int)/4294967296=0:=om
 have dy:(y:Int)/4294967296=0:=om
 have w0:IntKind.u64.wrap 0=0:=rfl;have wP:IntKind.u64.wrap ((x:Int)*y)=((x*y:Nat):Int):=by rw[IntKind.wrap_u64,<-Int.natCast_mul];omega
 have dP:((x*y:Nat):Int)/4294967296=((x*y/4294967296:Nat):Int):=om
 have wQ:IntKind.u64.wrap ((x*y/4294967296:Nat):Int)=((x*y/4294967296:Nat):Int):=by rw[IntKind.wrap_u64];omega
 have mQ:=mask (x*y/4294967296) om;have dQ:((x*y/4294967296:Nat):Int)/4294967296=0:=om
 simp only[mx,my,dx,dy,Int.zero_mul,Int.mul_zero,w0,Int.zero_add,Int.add_zero,wP,dP,wQ,mQ,dQ];go_ret2;exact⟨rfl,rfl⟩
theorem EJ(x y:Nat)(h:x+y<18446744073709551616)(w:World):(callFunc 252 #[.int .u64 x,.int .u64 y,.int .u64 0]).run aj w=.ok (.value (.tuple #[.int .u64 ((x+y:Nat):Int),.int .u64 0])) w:=by
 have:=FQ x y 0 om w;rw[show((x:Int)+y+(0:Nat))%18446744073709551616=((x+y:Nat):Int) by omega,show((x:Int)+y+(0:Nat))/18446744073709551616=0 by omega]at this
 exact this
theorem Kg(w:World):(callFunc 252 #[.int .u64 0,.int .u64 0,.int .u64 0]).run aj w=.ok (.value (.tuple #[.int .u64 0,.int .u64 0])) w:=EJ 0 0 om w
theorem E0(s x y:Nat)(hx:x<4294967296)(hy:y<4294967296)(hs:s+x*y<18446744073709551616)(w:World):Calls aj 215 #[.agg #[.int .u64 0,.int .u64 s],.int .u64 x,.int .u64 y] w fun e w'=>e=.returned (.agg #[.int .u64 0,.int .u64 ((s+x*y:Nat):Int)])/\Below w.heap.size w w':=by
 have hm:=C5 x y hx hy;generalize x*y=P at hm hs ⊢;have e1:=EJ s P hs
 go_enter func215,ntmps215
 go_wp2_with fail
 refine(hm _).mono ?_;rintro e w' ⟨rfl,hw'⟩;rw[hw']
 go_wp2_with (simp only[Kg])
 refine bodyPost_ret (v:=.agg #[.int .u64 0,.int .u64 ((s:Int)+P)]) (by simp[results,results215,go_sem]) rfl ⟨by rw[Int.natCast_add],((a8 _ w).alloc (ah _) _).alloc sm _⟩
theorem DZ(x y:Nat)(hx:x<18446744073709551616)(h:y<=x)(w:World):(callFunc 253 #[.int .u64 x,.int .u64 y,.int .u64 0]).run aj w=.ok (.value (.tuple #[.int .u64 ((x-y:Nat):Int),.int .u64 0])) w:=by
 have:=su x y 0 om w;rw[show(x+18446744073709551616-y-0)%18446744073709551616=x-y by omega,if_neg om]at this
 exact this
theorem I8(x y:Nat)(hy:y<18446744073709551616)(h:x<y)(w:World):(callFunc 253 #[.int .u64 x,.int .u64 y,.int .u64 0]).run aj w=.ok (.value (.tuple #[.int .u64 ((x+18446744073709551616-y:Nat):Int),.int .u64 1])) w:=by
 have:=su x y 0 om w;rw[show(x+18446744073709551616-y-0)%18446744073709551616=x+18446744073709551616-y by omega,if_pos om]at this
 exact this
theorem Ja(w:World):(callFunc 253 #[.int .u64 0,.int .u64 0,.int .u64 0]).run aj w=.ok (.value (.tuple #[.int .u64 0,.int .u64 0])) w:=DZ 0 0 om om w
theorem I9(w:World):(callFunc 253 #[.int .u64 0,.int .u64 0,.int .u64 1]).run aj w=.ok (.value (.tuple #[.int .u64 18446744073709551615,.int .u64 1])) w:=su 0 0 1 om w
theorem Ba(x y:Nat)(hx:x<4611686018427387904)(h:y<=x)(w:World):Calls aj 216 #[.agg #[.int .u64 0,.int .u64 x],.agg #[.int .u64 0,.int .u64 y]] w fun e w'=>e=.returned (.tuple #[.int .i64 ((x-y:Nat):Int),.bool true])/\Below w.heap.size w w':=by
 have e1:=DZ x y om h;have hk:x-y<4611686018427387904:=om
 generalize x-y=P at e1 hk ⊢;have h1:¬(4611686018427387904:Int)<P:=om
 have w1:IntKind.i64.wrap (P:Int)=P:=by rw[IntKind.wrap_i64];omega
 go_enter func216,ntmps216
 go_wp2_with (simp only[Ja])
 go_ret2;exact⟨rfl,((a8 _ w).alloc (ah _) _).alloc sm _⟩
theorem zf(x y:Nat)(hy:y<4611686018427387904)(h:x<y)(w:World):Calls aj 216 #[.agg #[.int .u64 0,.int .u64 x],.agg #[.int .u64 0,.int .u64 y]] w fun e w'=>e=.returned (.tuple #[.int .i64 0,.bool false])/\Below w.heap.size w w':=by
 have e1:=I8 x y om h;generalize x+18446744073709551616-y=P at e1
 go_enter func216,ntmps216
 go_wp2_with (simp only[I9])
 go_ret2;exact⟨rfl,((a8 _ w).alloc (ah _) _).alloc sm _⟩
theorem uH{w:World}{M:Nat->Prop}{a b:Int}{v:Value}(h:bs w M (.agg [.int .u64 a,.int .u64 b]) v):v=.agg #[.int .u64 a,.int .u64 b]:=by
 simp only[bs]at h;obtain⟨vs,rfl,h⟩:=h
 match vs,h with
 | [x,y],h =>
  simp only[bq,bs]at h;obtain⟨rfl,rfl,_⟩:=h;simp[Value.cells]
 | [],h=>simp[bq]at h
 | [_],h=>simp[bq]at h
 | _::_::_::_,h=>simp[bq]at h
theorem IU(w:World)(M:Nat->Prop)(a b:Int):bs w M (.agg [.int .u64 a,.int .u64 b]) (.agg #[.int .u64 a,.int .u64 b]):=by
 simp only[bs];exact⟨[.int .u64 a,.int .u64 b],by simp[Value.cells],by simp[bq,bs]⟩
theorem IW{s x y:Nat}(hx:x<4294967296)(hy:y<4294967296)(hs:s+x*y<18446744073709551616):PF 215 [.agg [.int .u64 0,.int .u64 s],.int .u64 x,.int .u64 y] (.agg [.int .u64 0,.int .u64 ((s+x*y:Nat):Int)]):=by
 intro w vs hr
 match vs,hr with
 | [a,b,c],hr =>
  simp only[bq]at hr;obtain⟨h1,h2,h3,_⟩:=hr;obtain rfl:=uH h1;simp only[bs]at h2 h3;subst h2;subst h3;refine(E0 s x y hx hy hs w).mono ?_;rintro e w' ⟨rfl,hb⟩;exact⟨_,rfl,IU _ _ _ _,cw.below hb⟩
 | [],hr=>simp[bq]at hr
 | [_],hr=>simp[bq]at hr
 | [_,_],hr=>simp[bq]at hr
 | _::_::_::_::_,hr=>simp[bq]at hr
theorem KK{x y:Nat}{z:Int}{b:Bool}(h:∀w,Calls aj 216 #[.agg #[.int .u64 0,.int .u64 x],.agg #[.int .u64 0,.int .u64 y]] w fun e w'=>e=.returned (.tuple #[.int .i64 z,.bool b])/\Below w.heap.size w w'):PF 216 [.agg [.int .u64 0,.int .u64 x],.agg [.int .u64 0,.int .u64 y]] (.tup [.int .i64 z,.bool b]):=by
 intro w vs hr
 match vs,hr with
 | [a,c],hr =>
  simp only[bq]at hr;obtain⟨h1,h2,_⟩:=hr;obtain rfl:=uH h1;obtain rfl:=uH h2;refine(h w).mono ?_;rintro e w' ⟨rfl,hb⟩;refine⟨_,rfl,?_,cw.below hb⟩;simp only[bs];exact⟨[.int .i64 z,.bool b],sm,by simp[bq,bs]⟩
 | [],hr=>simp[bq]at hr
 | [_],hr=>simp[bq]at hr
 | _::_::_::_,hr=>simp[bq]at hr
theorem EY{x y:Nat}(hx:x<4611686018427387904)(h:y<=x):PF 216 [.agg [.int .u64 0,.int .u64 x],.agg [.int .u64 0,.int .u64 y]] (.tup [.int .i64 ((x-y:Nat):Int),.bool true]):=KK (Ba x y hx h)
theorem EZ{x y:Nat}(hy:y<4611686018427387904)(h:x<y):PF 216 [.agg [.int .u64 0,.int .u64 x],.agg [.int .u64 0,.int .u64 y]] (.tup [.int .i64 0,.bool false]):=KK (zf x y hy h)
noncomputable section
def smx(z:Int):Bool:=aO z.natAbs 18446744073709551616
theorem CL{z:Int}(h:smx z=true):nb z 64:=by
 unfold smx at h;rw[pA]at h;unfold nb;omega
def LR(op:Int->Int->Option XV):List XV->Option XV
 | [.big a,.big b]=>(match smx a&&smx b with
  | true=>op a b
  | false=>ac)
 | _=>ac
def MU(op:Int->Option XV):List XV->Option XV
 | [.big a]=>(match smx a with
  | true=>op a
  | false=>ac)
 | _=>ac
def LFX(f:Nat)(args:List XV)(v:XV):Prop:=∀φ as',eD φ args as'->∃z,(∀ψ,ER ψ v z)/\PF f as' z
theorem vN{f:Nat}{op:Int->Int->Option XV}(hop:∀a b v,nb a 64->nb b 64->op a b=some v->∃z,(∀ψ,ER ψ v z)/\PF f [.big a,.big b] z){args:List XV}{v:XV}(h:LR op args=some v):LFX f args v:=by
 unfold LR at h;split at h
 ·rename_i a b;split at h
  ·rename_i hs;simp only[aA]at hs;intro φ as' ha
   match as',ha with
   | [x,y],ha =>
    simp only[eD,ER]at ha;obtain⟨rfl,rfl,_⟩:=ha;exact hop a b v (CL hs.1) (CL hs.2) h
   | [],ha=>simp[eD]at ha
   | [_],ha=>simp[eD]at ha
   | _::_::_::_,ha=>simp[eD]at ha
  ·cases h
 ·cases h
theorem zU{f:Nat}{op:Int->Option XV}(hop:∀a v,nb a 64->op a=some v->∃z,(∀ψ,ER ψ v z)/\PF f [.big a] z){args:List XV}{v:XV}(h:MU op args=some v):LFX f args v:=by
 unfold MU at h;split at h
 ·rename_i a;split at h
  ·rename_i hs;intro φ as' ha
   match as',ha with
   | [x],ha =>
    simp only[eD,ER]at ha;obtain⟨rfl,_⟩:=ha;exact hop a v (CL hs) h
   | [],ha=>simp[eD]at ha
   | _::_::_,ha=>simp[eD]at ha
  ·cases h
 ·cases h
def JZ(a:Int):Bool:=decide (-9223372036854775808<=a)&&decide (a<=9223372036854775807)
def Ex:List XV->Option XV
 | [.int .i64 a]=>(match JZ a with
  | true=>some (.big a)
  | false=>ac)
 | _=>ac
def G6:List XV->Option XV
 | [.agg [.int .u64 (.ofNat h),.int .u64 (.ofNat s)],.int .u64 (.ofNat x),.int .u64 (.ofNat y)]=>(match ay h 0&&aO x 4294967296&&aO y 4294967296&&aO (s+x*y) 18446744073709551616 with
  | true=>some (.agg [.int .u64 0,.int .u64 (.ofNat (s+x*y))])
  | false=>ac)
 | _=>ac
def BG:List XV->Option XV
 | [.agg [.int .u64 (.ofNat h),.int .u64 (.ofNat s)],.agg [.int .u64 (.ofNat h'),.int .u64 (.ofNat s')]]=>(match ay h 0&&ay h' 0&&aO s 4611686018427387904&&aO s' 4611686018427387904 with
  | true=>(match ix s' s with
   | true=>some (.tup [.int .i64 (.ofNat (s-s')),.bool true])
   | false=>some (.tup [.int .i64 0,.bool false]))
  | false=>ac)
 | _=>ac
def Gn(f:Nat)(args:List XV):Option XV :=
 match ay f 133 with
 | true=>LR (fun a b=>some (.big (a+b))) args
 | false=>match ay f 83 with
 | true=>LR (fun a b=>some (.big (a*b))) args
 | false=>match ay f 192 with
 | true=>LR (fun a b=>some (.big (a-b))) args
 | false=>match ay f 82 with
 | true=>LR (fun a b=>match decide (b=0)with
  | true=>ac
  | false=>some (.tup [.big (a/b),.big (a%b),.bool true])) args
 | false=>match ay f 159 with
 | true=>LR (fun a b=>some (.int .i64 (md a b))) args
 | false=>match ay f 193 with
 | true=>MU (fun a=>some (.big (-a))) args
 | false=>match ay f 157 with
 | true=>MU (fun a=>some (.big a)) args
 | false=>match ay f 191 with
 | true=>MU (fun a=>some (.int .i64 a.sign)) args
 | false=>match ay f 84 with
 | true=>MU (fun a=>match JZ a with
  | true=>some (.tup [.int .i64 a,.bool true])
  | false=>ac) args
 | false=>match ay f 81 with
 | true=>Ex args
 | false=>match ay f 215 with
 | true=>G6 args
 | false=>match ay f 216 with
 | true=>BG args
 | false=>ac
def G7:Nat:=2^133 ||| 2^83 ||| 2^192 ||| 2^82 ||| 2^159 ||| 2^193 ||| 2^157 ||| 2^191 ||| 2^84 ||| 2^81 ||| 2^215 ||| 2^216
def LU(f:Nat):Bool:=Nat.testBit G7 f
theorem zY{a:Int}(h:JZ a=true):-9223372036854775808<=a/\a<=9223372036854775807:=by
 simpa [JZ]using h
theorem Gm:Iq Gn:=by
 intro f args v h;have big:∀(z:Int) (ψ:Ph),ER ψ (.big z) (.big z):=fun z ψ=>by simp[ER]
 have int:∀(k:IntKind) (z:Int) (ψ:Ph),ER ψ (.int k z) (.int k z):=fun k z ψ=>by simp[ER]
 have key:((11<=f/\f<270)/\f≠252/\f≠253)/\LFX f args v:=by
  unfold Gn at h
  repeat' (split at h)
  all_goals first
   | (rename_i e;obtain rfl:=ap e;refine⟨by decide,?_⟩)
   | cases h
  ·exact vN (fun a b v ha hb h=>by cases h;exact⟨_,big _,sT ha hb dc⟩) h
  ·exact vN (fun a b v ha hb h=>by cases h;exact⟨_,big _,n9 ha hb dc⟩) h
  ·exact vN (fun a b v ha hb h=>by cases h;exact⟨_,big _,zq ha hb dc⟩) h
  ·refine vN (fun a b v ha hb h=>?_) h;split at h
   ·cases h
   ·rename_i hd
    cases h
    exact⟨.tup [.big (a/b),.big (a%b),.bool true],fun ψ=>by simp[ER,eD],kP ha hb dc (by simpa using hd) (Or.inr ha)⟩
  ·exact vN (fun a b v ha hb h=>by cases h;exact⟨_,int _ _,H4 ha hb dc⟩) h
  ·exact zU (fun a v ha h=>by cases h;exact⟨_,big _,qD ha dc⟩) h
  ·exact zU (fun a v ha h=>by cases h;exact⟨_,big _,pQ ha dc⟩) h
  ·exact zU (fun a v ha h=>by cases h;exact⟨_,int _ _,jJ ha dc⟩) h
  ·refine zU (fun a v ha h=>?_) h;split at h
   ·rename_i hd
    cases h
    exact⟨.tup [.int .i64 a,.bool true],fun ψ=>by simp[ER,eD],vR (zY hd)⟩
   ·cases h
  ·unfold Ex at h;split at h
   ·rename_i a;split at h
    ·rename_i hd
     cases h
     intro φ as' ha
     match as',ha with
     | [x],ha =>
      simp only[eD,ER]at ha;obtain⟨rfl,_⟩:=ha;exact⟨_,big _,jw (zY hd).1 (zY hd).2⟩
     | [],ha=>simp[eD]at ha
     | _::_::_,ha=>simp[eD]at ha
    ·cases h
   ·cases h
  ·unfold G6 at h;split at h
   ·rename_i hi s x y;split at h
    ·rename_i hd;simp only[aA,pA]at hd
     cases h
     intro φ as' ha
     match as',ha with
     | [u,v,w],ha =>
      simp only[eD,ER]at ha;obtain⟨⟨R,rfl,hR⟩,rfl,rfl,_⟩:=ha
      match R,hR with
      | [p,q],hR =>
       simp only[eD,ER]at hR;obtain⟨rfl,rfl,_⟩:=hR;obtain rfl:=ap hd.1.1.1;exact⟨.agg [.int .u64 0,.int .u64 (.ofNat (s+x*y))],fun ψ=>by simp[ER,eD],IW hd.1.1.2 hd.1.2 hd.2⟩
      | [],hR=>simp[eD]at hR
      | [_],hR=>simp[eD]at hR
      | _::_::_::_,hR=>simp[eD]at hR
     | [],ha=>simp[eD]at ha
     | [_],ha=>simp[eD]at ha
     | [_,_],ha=>simp[eD]at ha
     | _::_::_::_::_,ha=>simp[eD]at ha
    ·cases h
   ·cases h
  ·unfold BG at h;split at h
   ·rename_i h1 s h2 s';split at h
    ·rename_i hd;simp only[aA,pA]at hd;intro φ as' ha
     match as',ha with
     | [u,w],ha =>
      simp only[eD,ER]at ha;obtain⟨⟨R,rfl,hR⟩,⟨R',rfl,hR'⟩,_⟩:=ha
      match R,R',hR,hR' with
      | [p,q],[p',q'],hR,hR' =>
       simp only[eD,ER]at hR hR';obtain⟨rfl,rfl,_⟩:=hR;obtain⟨rfl,rfl,_⟩:=hR';obtain rfl:=ap hd.1.1.1;obtain rfl:=ap hd.1.1.2;split at h
       ·rename_i hle
        cases h
        exact⟨.tup [.int .i64 (.ofNat (s-s')),.bool true],fun ψ=>by simp[ER,eD],EY hd.1.2 (cb hle)⟩
       ·rename_i hle
        cases h
        exact⟨.tup [.int .i64 0,.bool false],fun ψ=>by simp[ER,eD],EZ hd.2 (by
         rcases Nat.lt_or_ge s s' with h|h
         ·exact h
         ·rw[Nat.ble_eq_true_of_le h]at hle;cases hle)⟩
      | [],_,hR,_=>simp[eD]at hR
      | [_],_,hR,_=>simp[eD]at hR
      | _::_::_::_,_,hR,_=>simp[eD]at hR
      | [_,_],[],_,hR=>simp[eD]at hR
      | [_,_],[_],_,hR=>simp[eD]at hR
      | [_,_],_::_::_::_,_,hR=>simp[eD]at hR
     | [],ha=>simp[eD]at ha
     | [_],ha=>simp[eD]at ha
     | _::_::_::_,ha=>simp[eD]at ha
    ·cases h
   ·cases h
 exact key
end
end Go.Proofs.YtdobfmlmenaajaaGreatDoor
