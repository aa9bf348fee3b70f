/-
  Lemmas for NeighbourKeeps.
-/
import Derived.Test.YtdobfmlmenaajaaGreatDoorL18
import Derived.Laws.Externs
import Derived.Laws.Bits64b
namespace Go.Proofs.YtdobfmlmenaajaaGreatDoor
open Go.RowKit Tryz
open Below renaming refl→bq
open _root_.Nat renaming le_refl→af
open Tryz renaming prog→ah
set_option maxHeartbeats 6400000
set_option maxRecDepth 4096
set_option linter.all false
variable{b:Bool}{z:Int}{x y:Nat}{M:Nat->Prop}{v:Value}{w:World}
theorem GD(x y c:Nat)(a:c<=1)(w:World):(callFunc 252 #[.int .u64 x,.int .u64 y,.int .u64 c]).run ah w =
   .ok (.value (.tuple #[.int .u64 (((x:Int)+y+c)%18446744073709551616),.int .u64 (((x:Int)+y+c)/18446744073709551616)])) w:=by
 rw[run_callFunc_extern func252 kr kr kr (e:=add64Entry) kr,run_add64 x y c om om om om]
 rfl
def L1:Array Value->Sem Value:=fun args=>do
 let (x, y, b) <- Extern.MathBitsCarry.three "Sub64" args
 pure (Extern.MathBitsCarry.pair ((x+Extern.MathBitsCarry.m64-y-b)%Extern.MathBitsCarry.m64) (if x<y+b then 1 else 0))
theorem tL(x y b:Nat)(a:b<=1)(w:World):(callFunc 253 #[.int .u64 x,.int .u64 y,.int .u64 b]).run ah w =
   .ok (.value (.tuple #[.int .u64 (((x+18446744073709551616-y-b)%18446744073709551616:Nat):Int),.int .u64 ((if x<y+b then 1 else 0:Nat):Int)])) w:=by
 rw[run_callFunc_extern func253 kr kr kr (e:=L1) kr]
 have:b=0∨b=1:=om
 rcases this with rfl|rfl<;>rfl
theorem DS(x y:Nat)(hx:x<4294967296)(hy:y<4294967296)(w:World):Calls ah 251 #[.int .u64 x,.int .u64 y] w fun e w'=>e=.returned (.tuple #[.int .u64 0,.int .u64 ((x*y:Nat):Int)])/\w'=w:=by
 have hxy:x*y<18446744073709551616:=by
  have:=Nat.mul_le_mul (om:x<=4294967295) (om:y<=4294967295)
  omega
 go_enter func251,ntmps251
 go_wp2;have mask:∀a:Nat,a<4294967296->bits .and .u64 (a:Int) 4294967295=(a:Int):=fun a ha=>by
  have h:=bits_and_u64_nat a 4294967295 om om;have e:a &&& 4294967295=a%4294967296:=Nat.and_two_pow_sub_one_eq_mod a 32;rw[e,Nat.mod_eq_of_lt ha]at h;exact h
 have mx:=mask x hx;have my:=mask y hy;have dx:(x:Int)/4294967296=0:=om
 have dy:(y:Int)/4294967296=0:=om
 have w0:IntKind.u64.wrap 0=0:=rfl;have wP:IntKind.u64.wrap ((x:Int)*y)=((x*y:Nat):Int):=by rw[IntKind.wrap_u64,<-Int.natCast_mul];omega
 have dP:((x*y:Nat):Int)/4294967296=((x*y/4294967296:Nat):Int):=om
 have wQ:IntKind.u64.wrap ((x*y/4294967296:Nat):Int)=((x*y/4294967296:Nat):Int):=by rw[IntKind.wrap_u64];omega
 have mQ:=mask (x*y/4294967296) om;have dQ:((x*y/4294967296:Nat):Int)/4294967296=0:=om
 simp only[mx,my,dx,dy,Int.zero_mul,Int.mul_zero,w0,Int.zero_add,Int.add_zero,wP,dP,wQ,mQ,dQ];go_ret2;exact⟨rfl,rfl⟩
theorem FD(x y:Nat)(h:x+y<18446744073709551616)(w:World):(callFunc 252 #[.int .u64 x,.int .u64 y,.int .u64 0]).run ah w=.ok (.value (.tuple #[.int .u64 ((x+y:Nat):Int),.int .u64 0])) w:=by
 have:=GD x y 0 om w;rw[show((x:Int)+y+(0:Nat))%18446744073709551616=((x+y:Nat):Int) by omega,show((x:Int)+y+(0:Nat))/18446744073709551616=0 by omega]at this
 exact this
theorem KV(w:World):(callFunc 252 #[.int .u64 0,.int .u64 0,.int .u64 0]).run ah w=.ok (.value (.tuple #[.int .u64 0,.int .u64 0])) w:=FD 0 0 om w
theorem FI(s x y:Nat)(hx:x<4294967296)(hy:y<4294967296)(hs:s+x*y<18446744073709551616)(w:World):Calls ah 215 #[.agg #[.int .u64 0,.int .u64 s],.int .u64 x,.int .u64 y] w fun e w'=>e=.returned (.agg #[.int .u64 0,.int .u64 ((s+x*y:Nat):Int)])/\Below w.heap.size w w':=by
 have hm:=DS x y hx hy;generalize x*y=P at hm hs ⊢;have e1:=FD s P hs
 go_enter func215,ntmps215
 go_wp2_with fail
 refine(hm _).mono ?_;rintro e w' ⟨rfl,hw'⟩;rw[hw']
 go_wp2_with (simp only[KV])
 refine bodyPost_ret (v:=.agg #[.int .u64 0,.int .u64 ((s:Int)+P)]) (by simp[results,results215,go_sem]) rfl ⟨by rw[Int.natCast_add],((bq _ w).alloc (af _) _).alloc sm _⟩
theorem ER(x y:Nat)(a:x<18446744073709551616)(h:y<=x)(w:World):(callFunc 253 #[.int .u64 x,.int .u64 y,.int .u64 0]).run ah w=.ok (.value (.tuple #[.int .u64 ((x-y:Nat):Int),.int .u64 0])) w:=by
 have:=tL x y 0 om w;rw[show(x+18446744073709551616-y-0)%18446744073709551616=x-y by omega,if_neg om]at this
 exact this
theorem JH(x y:Nat)(a:y<18446744073709551616)(h:x<y)(w:World):(callFunc 253 #[.int .u64 x,.int .u64 y,.int .u64 0]).run ah w=.ok (.value (.tuple #[.int .u64 ((x+18446744073709551616-y:Nat):Int),.int .u64 1])) w:=by
 have:=tL x y 0 om w;rw[show(x+18446744073709551616-y-0)%18446744073709551616=x+18446744073709551616-y by omega,if_pos om]at this
 exact this
theorem JJ(w:World):(callFunc 253 #[.int .u64 0,.int .u64 0,.int .u64 0]).run ah w=.ok (.value (.tuple #[.int .u64 0,.int .u64 0])) w:=ER 0 0 om om w
theorem JI(w:World):(callFunc 253 #[.int .u64 0,.int .u64 0,.int .u64 1]).run ah w=.ok (.value (.tuple #[.int .u64 18446744073709551615,.int .u64 1])) w:=tL 0 0 1 om w
theorem BT(x y:Nat)(hx:x<4611686018427387904)(h:y<=x)(w:World):Calls ah 216 #[.agg #[.int .u64 0,.int .u64 x],.agg #[.int .u64 0,.int .u64 y]] w fun e w'=>e=.returned (.tuple #[.int .i64 ((x-y:Nat):Int),.bool true])/\Below w.heap.size w w':=by
 have e1:=ER x y om h;have hk:x-y<4611686018427387904:=om
 generalize x-y=P at e1 hk ⊢;have h1:¬(4611686018427387904:Int)<P:=om
 have w1:IntKind.i64.wrap (P:Int)=P:=by rw[IntKind.wrap_i64];omega
 go_enter func216,ntmps216
 go_wp2_with (simp only[JJ])
 go_ret2;exact⟨rfl,((bq _ w).alloc (af _) _).alloc sm _⟩
theorem Ag(x y:Nat)(hy:y<4611686018427387904)(h:x<y)(w:World):Calls ah 216 #[.agg #[.int .u64 0,.int .u64 x],.agg #[.int .u64 0,.int .u64 y]] w fun e w'=>e=.returned (.tuple #[.int .i64 0,.bool false])/\Below w.heap.size w w':=by
 have e1:=JH x y om h;generalize x+18446744073709551616-y=P at e1
 go_enter func216,ntmps216
 go_wp2_with (simp only[JI])
 go_ret2;exact⟨rfl,((bq _ w).alloc (af _) _).alloc sm _⟩
theorem wh{a b:Int}(h:bB w M (.agg [.int .u64 a,.int .u64 b]) v):v=.agg #[.int .u64 a,.int .u64 b]:=by
 simp only[bB]at h;obtain⟨vs,rfl,h⟩:=h
 match vs,h with
 | [x,y],h =>
  simp only[a6,bB]at h;obtain⟨rfl,rfl,_⟩:=h;simp[Value.cells]
 | [],h=>simp[a6]at h
 | [_],h=>simp[a6]at h
 | _::_::_::_,h=>simp[a6]at h
theorem Jw(w:World)(M:Nat->Prop)(a b:Int):bB w M (.agg [.int .u64 a,.int .u64 b]) (.agg #[.int .u64 a,.int .u64 b]):=by
 simp only[bB];exact⟨[.int .u64 a,.int .u64 b],by simp[Value.cells],by simp[a6,bB]⟩
theorem vJ{s:Nat}(h:x<4294967296)(i:y<4294967296)(j:s+x*y<18446744073709551616):PF 215 [.agg [.int .u64 0,.int .u64 s],.int .u64 x,.int .u64 y] (.agg [.int .u64 0,.int .u64 ((s+x*y:Nat):Int)]):=by
 intro w vs d
 match vs,d with
 | [a,b,c],d =>
  simp only[a6]at d;obtain⟨k,f,g,_⟩:=d;obtain rfl:=wh k;simp only[bB]at f g;subst f;subst g;refine(FI s x y h i j w).mono ?_;rintro e w' ⟨rfl,l⟩;exact⟨_,rfl,Jw _ _ _ _,cG.below l⟩
 | [],d=>simp[a6]at d
 | [_],d=>simp[a6]at d
 | [_,_],d=>simp[a6]at d
 | _::_::_::_::_,d=>simp[a6]at d
theorem Ls(h:∀w,Calls ah 216 #[.agg #[.int .u64 0,.int .u64 x],.agg #[.int .u64 0,.int .u64 y]] w fun e w'=>e=.returned (.tuple #[.int .i64 z,.bool b])/\Below w.heap.size w w'):PF 216 [.agg [.int .u64 0,.int .u64 x],.agg [.int .u64 0,.int .u64 y]] (.tup [.int .i64 z,.bool b]):=by
 intro w vs d
 match vs,d with
 | [a,c],d =>
  simp only[a6]at d;obtain⟨f,g,_⟩:=d;obtain rfl:=wh f;obtain rfl:=wh g;refine(h w).mono ?_;rintro e w' ⟨rfl,i⟩;refine⟨_,rfl,?_,cG.below i⟩;simp only[bB];exact⟨[.int .i64 z,.bool b],sm,by simp[a6,bB]⟩
 | [],d=>simp[a6]at d
 | [_],d=>simp[a6]at d
 | _::_::_::_,d=>simp[a6]at d
theorem zm(a:x<4611686018427387904)(h:y<=x):PF 216 [.agg [.int .u64 0,.int .u64 x],.agg [.int .u64 0,.int .u64 y]] (.tup [.int .i64 ((x-y:Nat):Int),.bool true]):=Ls (BT x y a h)
theorem FH(a:y<4611686018427387904)(h:x<y):PF 216 [.agg [.int .u64 0,.int .u64 x],.agg [.int .u64 0,.int .u64 y]] (.tup [.int .i64 0,.bool false]):=Ls (Ag x y a h)

end Go.Proofs.YtdobfmlmenaajaaGreatDoor
