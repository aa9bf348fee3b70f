/-
  Lemmas for NeighbourRaw.
-/
import Derived.Test.YtdobfmlmenaajaaGreatDoorH15
import Derived.Laws.Externs
import Derived.Laws.Bits64b
import Derived.Lib.Mul64
import Derived.Test.YtdobfmlmenaajaaGreatDoorH12
namespace Go.Proofs.YtdobfmlmenaajaaGreatDoor
open Go.RowKit Tryz
open _root_.Classical renaming choose→dq
open _root_.Nat renaming beq→ap,blt→aN,ble→jB
open _root_.Option renaming none→ab
open Tryz renaming prog→ah
set_option maxHeartbeats 6400000
set_option maxRecDepth 4096
set_option linter.all false
variable{a b z:Int}{op:Int->Int->Option XV}{L' as':List AV}{L args:List XV}{W f k x y:Nat}{isL:Nat->Bool}{leaf:Nat->List XV->Option XV}{M:Nat->Prop}{φ:Ph}{v:Value}{w:World}
def wD(x y c:Nat)(a:c<=1)(w:World):(callFunc 252 #[.int .u64 x,.int .u64 y,.int .u64 c]).run ah w =
   .ok (.value (.tuple #[.int .u64 (((x:Int)+y+c)%18446744073709551616),.int .u64 (((x:Int)+y+c)/18446744073709551616)])) w:=by
 rw[UW func252 kr kr kr (e:=add64Entry) kr,run_add64 x y c om om om om]
 rfl
def Sy:Array Value->Sem Value:=fun args=>do
 let (x, y, b) <- Extern.MathBitsCarry.three "Sub64" args
 pure (Extern.MathBitsCarry.pair ((x+Extern.MathBitsCarry.m64-y-b)%Extern.MathBitsCarry.m64) (if x<y+b then 1 else 0))
def pi(x y b:Nat)(a:b<=1)(w:World):(callFunc 253 #[.int .u64 x,.int .u64 y,.int .u64 b]).run ah w =
   .ok (.value (.tuple #[.int .u64 (((x+18446744073709551616-y-b)%18446744073709551616:Nat):Int),.int .u64 ((if x<y+b then 1 else 0:Nat):Int)])) w:=by
 rw[UW func253 kr kr kr (e:=Sy) kr]
 have:b=0∨b=1:=om
 rcases this with rfl|rfl<;>rfl
def H6(x y:Nat)(hx:x<4294967296)(hy:y<4294967296)(w:World):Calls ah 251 #[.int .u64 x,.int .u64 y] w fun e w'=>e=.returned (.tuple #[.int .u64 0,.int .u64 ((x*y:Nat):Int)])/\w'=w:=by
 have hxy:x*y<18446744073709551616:=by
  have:=a9 (om:x<=4294967295) (om:y<=4294967295)
  omega
 go_enter func251,ntmps251
 go_wp2;have mask:∀a:Nat,a<4294967296->bits .and .u64 (a:Int) 4294967295=(a:Int):=fun a ha=>by
  have h:=bits_and_u64_nat a 4294967295 om om;have e:a &&& 4294967295=a%4294967296:=GM a 32;rw[e,dX ha]at h;exact h
 have mx:=mask x hx;have my:=mask y hy;have dx:(x:Int)/4294967296=0:=om
 have dy:(y:Int)/4294967296=0:=om
 have w0:IntKind.u64.wrap 0=0:=rfl;have wP:IntKind.u64.wrap ((x:Int)*y)=((x*y:Nat):Int):=by rw[cf,<-bD];omega
 have dP:((x*y:Nat):Int)/4294967296=((x*y/4294967296:Nat):Int):=om
 have wQ:IntKind.u64.wrap ((x*y/4294967296:Nat):Int)=((x*y/4294967296:Nat):Int):=by rw[cf];omega
 have mQ:=mask (x*y/4294967296) om;have dQ:((x*y/4294967296:Nat):Int)/4294967296=0:=om
 simp only[mx,my,dx,dy,vC,vD,w0,Sb,Int.add_zero,wP,dP,wQ,mQ,dQ];go_ret2;exact⟨rfl,rfl⟩
def J5(x y:Nat)(h:x+y<18446744073709551616)(w:World):(callFunc 252 #[.int .u64 x,.int .u64 y,.int .u64 0]).run ah w=.ok (.value (.tuple #[.int .u64 ((x+y:Nat):Int),.int .u64 0])) w:=by
 have:=wD x y 0 om w;rw[show((x:Int)+y+(0:Nat))%18446744073709551616=((x+y:Nat):Int) by omega,show((x:Int)+y+(0:Nat))/18446744073709551616=0 by omega]at this
 exact this
def QM(w:World):(callFunc 252 #[.int .u64 0,.int .u64 0,.int .u64 0]).run ah w=.ok (.value (.tuple #[.int .u64 0,.int .u64 0])) w:=J5 0 0 om w
def Kv(s x y:Nat)(hx:x<4294967296)(hy:y<4294967296)(hs:s+x*y<18446744073709551616)(w:World):Calls ah 215 #[.agg #[.int .u64 0,.int .u64 s],.int .u64 x,.int .u64 y] w fun e w'=>e=.returned (.agg #[.int .u64 0,.int .u64 ((s+x*y:Nat):Int)])/\Below w.heap.size w w':=by
 have hm:=H6 x y hx hy;generalize x*y=P at hm hs ⊢;have e1:=J5 s P hs
 go_enter func215,ntmps215
 go_wp2_with fail
 refine(hm _).mono ?_;rintro e w' ⟨rfl,hw'⟩;rw[hw']
 go_wp2_with (simp only[QM])
 refine cI (v:=.agg #[.int .u64 0,.int .u64 ((s:Int)+P)]) (by simp[results,results215,go_sem]) rfl ⟨by rw[eB],((aX _ w).alloc (ae _) _).alloc sm _⟩
def Jk(x y:Nat)(a:x<18446744073709551616)(h:y<=x)(w:World):(callFunc 253 #[.int .u64 x,.int .u64 y,.int .u64 0]).run ah w=.ok (.value (.tuple #[.int .u64 ((x-y:Nat):Int),.int .u64 0])) w:=by
 have:=pi x y 0 om w;rw[show(x+18446744073709551616-y-0)%18446744073709551616=x-y by omega,af om]at this
 exact this
def Pc(x y:Nat)(a:y<18446744073709551616)(h:x<y)(w:World):(callFunc 253 #[.int .u64 x,.int .u64 y,.int .u64 0]).run ah w=.ok (.value (.tuple #[.int .u64 ((x+18446744073709551616-y:Nat):Int),.int .u64 1])) w:=by
 have:=pi x y 0 om w;rw[show(x+18446744073709551616-y-0)%18446744073709551616=x+18446744073709551616-y by omega,ai om]at this
 exact this
def Pf(w:World):(callFunc 253 #[.int .u64 0,.int .u64 0,.int .u64 0]).run ah w=.ok (.value (.tuple #[.int .u64 0,.int .u64 0])) w:=Jk 0 0 om om w
def Pe(w:World):(callFunc 253 #[.int .u64 0,.int .u64 0,.int .u64 1]).run ah w=.ok (.value (.tuple #[.int .u64 18446744073709551615,.int .u64 1])) w:=pi 0 0 1 om w
def E8(x y:Nat)(hx:x<4611686018427387904)(h:y<=x)(w:World):Calls ah 216 #[.agg #[.int .u64 0,.int .u64 x],.agg #[.int .u64 0,.int .u64 y]] w fun e w'=>e=.returned (.tuple #[.int .i64 ((x-y:Nat):Int),.bool true])/\Below w.heap.size w w':=by
 have e1:=Jk x y om h;have hk:x-y<4611686018427387904:=om
 generalize x-y=P at e1 hk ⊢;have h1:¬(4611686018427387904:Int)<P:=om
 have w1:IntKind.i64.wrap (P:Int)=P:=by rw[me];omega
 go_enter vA,r7
 go_wp2_with (simp only[Pf])
 go_ret2;exact⟨rfl,((aX _ w).alloc (ae _) _).alloc sm _⟩
def C3(x y:Nat)(hy:y<4611686018427387904)(h:x<y)(w:World):Calls ah 216 #[.agg #[.int .u64 0,.int .u64 x],.agg #[.int .u64 0,.int .u64 y]] w fun e w'=>e=.returned (.tuple #[.int .i64 0,.bool false])/\Below w.heap.size w w':=by
 have e1:=Pc x y om h;generalize x+18446744073709551616-y=P at e1
 go_enter vA,r7
 go_wp2_with (simp only[Pe])
 go_ret2;exact⟨rfl,((aX _ w).alloc (ae _) _).alloc sm _⟩
def o8(h:bs w M (.agg [.int .u64 a,.int .u64 b]) v):v=.agg #[.int .u64 a,.int .u64 b]:=by
 simp only[bs]at h;obtain⟨vs,rfl,h⟩:=h
 match vs,h with
 | [x,y],h =>
  simp only[aT,bs]at h;obtain⟨rfl,rfl,_⟩:=h;simp[Value.cells]
 | [],h=>simp[aT]at h
 | [_],h=>simp[aT]at h
 | _::_::_::_,h=>simp[aT]at h
def Jd(w:World)(M:Nat->Prop)(a b:Int):bs w M (.agg [.int .u64 a,.int .u64 b]) (.agg #[.int .u64 a,.int .u64 b]):=by
 simp only[bs];exact⟨[.int .u64 a,.int .u64 b],by simp[Value.cells],by simp[aT,bs]⟩
def O2{s:Nat}(h:x<4294967296)(i:y<4294967296)(j:s+x*y<18446744073709551616):PF 215 [.agg [.int .u64 0,.int .u64 s],.int .u64 x,.int .u64 y] (.agg [.int .u64 0,.int .u64 ((s+x*y:Nat):Int)]):=by
 intro w vs _ d
 match vs,d with
 | [a,b,c],d =>
  simp only[aT]at d;obtain⟨k,f,g,_⟩:=d;obtain rfl:=o8 k;simp only[bs]at f g;subst f;subst g;refine(Kv s x y h i j w).mono ?_;rintro e w' ⟨rfl,l⟩;exact⟨_,rfl,Jd _ _ _ _,dz.below l⟩
 | [],d=>simp[aT]at d
 | [_],d=>simp[aT]at d
 | [_,_],d=>simp[aT]at d
 | _::_::_::_::_,d=>simp[aT]at d
def Rp{b:Bool}(h:∀w,Calls ah 216 #[.agg #[.int .u64 0,.int .u64 x],.agg #[.int .u64 0,.int .u64 y]] w fun e w'=>e=.returned (.tuple #[.int .i64 z,.bool b])/\Below w.heap.size w w'):PF 216 [.agg [.int .u64 0,.int .u64 x],.agg [.int .u64 0,.int .u64 y]] (.tup [.int .i64 z,.bool b]):=by
 intro w vs _ d
 match vs,d with
 | [a,c],d =>
  simp only[aT]at d;obtain⟨f,g,_⟩:=d;obtain rfl:=o8 f;obtain rfl:=o8 g;refine(h w).mono ?_;rintro e w' ⟨rfl,i⟩;refine⟨_,rfl,?_,dz.below i⟩;simp only[bs];exact⟨[.int .i64 z,.bool b],sm,by simp[aT,bs]⟩
 | [],d=>simp[aT]at d
 | [_],d=>simp[aT]at d
 | _::_::_::_,d=>simp[aT]at d
def Kt(a:x<4611686018427387904)(h:y<=x):PF 216 [.agg [.int .u64 0,.int .u64 x],.agg [.int .u64 0,.int .u64 y]] (.tup [.int .i64 ((x-y:Nat):Int),.bool true]):=Rp (E8 x y a h)
def Ku(a:y<4611686018427387904)(h:x<y):PF 216 [.agg [.int .u64 0,.int .u64 x],.agg [.int .u64 0,.int .u64 y]] (.tup [.int .i64 0,.bool false]):=Rp (C3 x y a h)

def H7(a:Nat)(b:a<18446744073709551616):bits .and .u64 (a:Int) 4294967295=((a%4294967296:Nat):Int):=by
 have h:=bits_and_u64_nat a 4294967295 b om;have e:a &&& 4294967295=a%4294967296:=GM a 32;rw[e]at h;exact h
def div64(a:Nat):(a:Int)/4294967296=((a/4294967296:Nat):Int):=om
def SM(a b:Nat):(a:Int)*(b:Int)=((a*b:Nat):Int):=(bD a b).symm
def Tz(a b:Nat):(a:Int)+(b:Int)=((a+b:Nat):Int):=(eB a b).symm
def xe(a:Nat)(b:a<18446744073709551616):IntKind.u64.wrap (a:Int)=(a:Int):=by rw[cf];omega
def O1(a:Nat):IntKind.u64.wrap (a:Int)=((a%18446744073709551616:Nat):Int):=by rw[cf];omega
def KT(x y:Nat)(hx:x<18446744073709551616)(hy:y<18446744073709551616)(w:World):Calls ah 251 #[.int .u64 x,.int .u64 y] w fun e w'=>e=.returned (.tuple #[.int .u64 ((x*y/18446744073709551616:Nat):Int),.int .u64 ((x*y%18446744073709551616:Nat):Int)])/\w'=w:=by
 obtain⟨bd,bt,bw,hhi⟩:=Lib.mul64_hi x y hx hy;have ba:=Lib.half_mul_le (a:=x/4294967296) (b:=y/4294967296) om om;have bb:=Lib.half_mul_le (a:=x/4294967296) (b:=y%4294967296) om om;have bc:=Lib.half_mul_le (a:=x%4294967296) (b:=y/4294967296) om om;have ba':x/4294967296*(y/4294967296)<18446744073709551616:=om
 have bb':x/4294967296*(y%4294967296)<18446744073709551616:=om
 have bc':x%4294967296*(y/4294967296)<18446744073709551616:=om
 have bh1:x/4294967296*(y/4294967296)+(x/4294967296*(y%4294967296)+x%4294967296*(y%4294967296)/4294967296)/4294967296<18446744073709551616:=om
 have bh:x/4294967296*(y/4294967296)+(x/4294967296*(y%4294967296)+x%4294967296*(y%4294967296)/4294967296)/4294967296+((x/4294967296*(y%4294967296)+x%4294967296*(y%4294967296)/4294967296)%4294967296+x%4294967296*(y/4294967296))/4294967296<18446744073709551616:=om
 go_enter func251,ntmps251
 go_wp2;simp only[H7 x hx,H7 y hy,div64,SM,Tz,xe _ bd,xe _ bb',xe _ bt,H7 _ bt,xe _ bc',xe _ bw,xe _ ba',xe _ bh1,xe _ bh,O1 (x*y)];rw[hhi];go_ret2;exact⟨rfl,rfl⟩
def yy(W:Nat):∃W1 W0,W/18446744073709551616=W1/\W%18446744073709551616=W0/\W=18446744073709551616*W1+W0/\W0<18446744073709551616 :=
 ⟨_,_,rfl,rfl,(dd W 18446744073709551616).symm,dj _ om⟩
def Ms(W x y:Nat)(hx:x<18446744073709551616)(hy:y<18446744073709551616)(hs:W+x*y<340282366920938463463374607431768211456)(w:World):Calls ah 215 #[.agg #[.int .u64 ((W/18446744073709551616:Nat):Int),.int .u64 ((W%18446744073709551616:Nat):Int)],.int .u64 x,.int .u64 y] w fun e w'=>e=.returned (.agg #[.int .u64 (((W+x*y)/18446744073709551616:Nat):Int),.int .u64 (((W+x*y)%18446744073709551616:Nat):Int)])/\Below w.heap.size w w':=by
 have hm:=KT x y hx hy;generalize x*y=P at hm hs ⊢;obtain⟨W1,W0,a1,a2,a3,a4⟩:=yy W;obtain⟨P1,P0,b1,b2,b3,b4⟩:=yy P;obtain⟨C,hC⟩:∃C,C=(W0+P0)/18446744073709551616:=⟨_,rfl⟩;obtain⟨R0,hR0⟩:∃R,R=(W0+P0)%18446744073709551616:=⟨_,rfl⟩;have hR:=dd (W0+P0) 18446744073709551616;rw[<-hC,<-hR0]at hR;have hR0l:R0<18446744073709551616:=by rw[hR0];exact dj _ om
 have e1:=wD W0 P0 0 om;have q1:((W0:Int)+(P0:Int)+((0:Nat):Int))%18446744073709551616=(R0:Int):=by
  rw[hR0,lP,eB];simp
 have q2:((W0:Int)+(P0:Int)+((0:Nat):Int))/18446744073709551616=(C:Int):=by
  rw[hC,lQ,eB];simp
 rw[q1,q2]at e1;clear q1 q2 hC hR0;have hC1:C<=1:=om
 have hsum:W+P=18446744073709551616*(W1+P1+C)+R0:=om
 have hlt:W1+P1+C<18446744073709551616:=om
 have r1:(W+P)/18446744073709551616=W1+P1+C:=by rw[hsum];omega
 have r0:(W+P)%18446744073709551616=R0:=by rw[hsum];omega
 rw[a1,a2,r1,r0];rw[b1,b2]at hm;have e2:=wD W1 P1 C hC1;have q3:((W1:Int)+(P1:Int)+(C:Int))%18446744073709551616=((W1+P1+C:Nat):Int):=by
  rw[<-eB,<-eB];exact dZ (cA _) om
 rw[q3]at e2;clear q3 hs hsum hlt r1 r0 hR a1 a2 a3 a4 b1 b2 b3 b4 hR0l hC1;generalize ((W1:Int)+(P1:Int)+(C:Int))/18446744073709551616=cc at e2;generalize W1+P1+C=R1 at *
 go_enter func215,ntmps215
 go_wp2_with fail
 refine(hm _).mono ?_;rintro e w' ⟨rfl,hw'⟩;rw[hw']
 go_wp2_with (first|simp only[show(0:Int)=((0:Nat):Int)from rfl,e1]|simp only[e2])
 refine cI (v:=.agg #[.int .u64 (R1:Int),.int .u64 (R0:Int)]) (by simp[results,results215,go_sem]) rfl ⟨rfl,((aX _ w).alloc (ae _) _).alloc sm _⟩
def Jl{c:Nat}(a:x<18446744073709551616)(b:y<18446744073709551616)(d:c<=1):(x+18446744073709551616-y-c)%18446744073709551616=if x<y+c then x+18446744073709551616-y-c else x-y-c:=by
 split
 .exact dX om
 .rw[(om:x+18446744073709551616-y-c=(x-y-c)+18446744073709551616),Nat.add_mod_right]
  exact dX om
def G3(W V:Nat)(hW:W<340282366920938463463374607431768211456)(hV:V<340282366920938463463374607431768211456)(w:World):Calls ah 216 #[.agg #[.int .u64 ((W/18446744073709551616:Nat):Int),.int .u64 ((W%18446744073709551616:Nat):Int)],.agg #[.int .u64 ((V/18446744073709551616:Nat):Int),.int .u64 ((V%18446744073709551616:Nat):Int)]] w fun e w'=>e=.returned (.tuple #[.int .i64 (if V<=W/\W-V<=4611686018427387904 then((W-V:Nat):Int)else 0),.bool (decide (V<=W/\W-V<=4611686018427387904))])/\Below w.heap.size w w':=by
 obtain⟨W1,W0,a1,a2,a3,a4⟩:=yy W;obtain⟨V1,V0,b1,b2,b3,b4⟩:=yy V;rw[a1,a2,b1,b2];have e1:=pi W0 V0 0 om;rw[Jl a4 b4 om]at e1;obtain⟨c,hc,hc1⟩:∃c,c=(if W0<V0+0 then 1 else 0:Nat)/\c<=1:=⟨_,rfl,by split<;>omega⟩
 obtain⟨lo,hlo⟩:∃z,z=(if W0<V0+0 then W0+18446744073709551616-V0-0 else W0-V0-0:Nat):=⟨_,rfl⟩
 rw[<-hc,<-hlo]at e1;have e2:=pi W1 V1 c hc1;rw[Jl om om hc1]at e2;obtain⟨br,hbr⟩:∃z,z=(if W1<V1+c then 1 else 0:Nat):=⟨_,rfl⟩
 obtain⟨hi,hhi⟩:∃z,z=(if W1<V1+c then W1+18446744073709551616-V1-c else W1-V1-c:Nat):=⟨_,rfl⟩
 rw[<-hbr,<-hhi]at e2;have q':(br=0/\hi=0/\lo<=4611686018427387904/\V<=W/\W-V<=4611686018427387904/\lo=W-V)∨(¬(V<=W/\W-V<=4611686018427387904)/\(br=1∨(br=0/\hi≠0/\0<hi)∨(br=0/\hi=0/\4611686018427387904<lo))):=by
  by_cases c0:W0<V0+0
  .rw[ai c0]at hc hlo;subst hc;by_cases c1:W1<V1+1
   .rw[ai c1]at hbr hhi;right;omega
   .rw[af c1]at hbr hhi;by_cases c2:hi=0
    .omega
    .right;omega
  .rw[af c0]at hc hlo;subst hc;by_cases c1:W1<V1+0
   .rw[ai c1]at hbr hhi;right;omega
   .rw[af c1]at hbr hhi;by_cases c2:hi=0
    .omega
    .right;omega
 have hlol:lo<18446744073709551616:=by rw[hlo];split<;>omega
 clear hc hlo hbr hhi hc1 a1 a2 b1 b2 a3 b3 a4 b4;generalize hR:(if V<=W/\W-V<=4611686018427387904 then((W-V:Nat):Int)else 0)=R
 generalize hB:decide (V<=W/\W-V<=4611686018427387904)=B;rcases q' with⟨rfl,rfl,h3,h4,h5,rfl⟩|⟨h4,h5⟩
 .rw[ai ⟨h4,h5⟩]at hR;rw[nG (show V<=W/\W-V<=4611686018427387904 from⟨h4,h5⟩)]at hB;subst hR;subst hB;clear hW hV h4 h5;generalize W-V=lo at *;have h1:¬(4611686018427387904:Int)<lo:=om
  have w1:IntKind.i64.wrap (lo:Int)=lo:=by rw[me];omega
  go_enter vA,r7
  go_wp2_with (first|simp only[show(0:Int)=((0:Nat):Int)from rfl,e1]|simp only[e2])
  go_ret2;exact⟨rfl,((aX _ w).alloc (ae _) _).alloc sm _⟩
 .rw[af h4]at hR;rw[pJ h4]at hB;subst hR;subst hB;clear hW hV h4;rcases h5 with rfl|⟨rfl,h6,h7⟩|⟨rfl,rfl,h6⟩
  .go_enter vA,r7
   go_wp2_with (first|simp only[show(0:Int)=((0:Nat):Int)from rfl,e1]|simp only[e2])
   go_ret2;exact⟨rfl,((aX _ w).alloc (ae _) _).alloc sm _⟩
  .have h8:((hi:Nat):Int)≠0:=om
   go_enter vA,r7
   go_wp2_with (first|simp only[show(0:Int)=((0:Nat):Int)from rfl,e1]|simp only[e2])
   go_ret2;exact⟨rfl,((aX _ w).alloc (ae _) _).alloc sm _⟩
  .have h1:(4611686018427387904:Int)<lo:=om
   go_enter vA,r7
   go_wp2_with (first|simp only[show(0:Int)=((0:Nat):Int)from rfl,e1]|simp only[e2])
   go_ret2;exact⟨rfl,((aX _ w).alloc (ae _) _).alloc sm _⟩
def Rq(W:Nat):AV:=.agg [.int .u64 ((W/18446744073709551616:Nat):Int),.int .u64 ((W%18446744073709551616:Nat):Int)]
def yp(h:x<18446744073709551616)(i:y<18446744073709551616)(j:W+x*y<340282366920938463463374607431768211456):PF 215 [Rq W,.int .u64 x,.int .u64 y] (Rq (W+x*y)):=by
 intro w vs _ d
 match vs,d with
 | [a,b,c],d =>
  simp only[aT]at d;obtain⟨k,f,g,_⟩:=d;obtain rfl:=o8 k;simp only[bs]at f g;subst f;subst g;refine(Ms W x y h i j w).mono ?_;rintro e w' ⟨rfl,l⟩;exact⟨_,rfl,Jd _ _ _ _,dz.below l⟩
 | [],d=>simp[aT]at d
 | [_],d=>simp[aT]at d
 | [_,_],d=>simp[aT]at d
 | _::_::_::_::_,d=>simp[aT]at d
def B4{V:Nat}(d:W<340282366920938463463374607431768211456)(f:V<340282366920938463463374607431768211456):PF 216 [Rq W,Rq V] (.tup [.int .i64 (if V<=W/\W-V<=4611686018427387904 then((W-V:Nat):Int)else 0),.bool (decide (V<=W/\W-V<=4611686018427387904))]):=by
 intro w vs _ b
 match vs,b with
 | [a,c],b =>
  simp only[aT]at b;obtain⟨g,h,_⟩:=b;obtain rfl:=o8 g;obtain rfl:=o8 h;refine(G3 W V d f w).mono ?_;rintro e w' ⟨rfl,i⟩;refine⟨_,rfl,?_,dz.below i⟩;generalize (if V<=W/\W-V<=4611686018427387904 then((W-V:Nat):Int)else 0)=z
  generalize decide (V<=W/\W-V<=4611686018427387904)=β;simp only[bs];exact⟨[.int .i64 z,.bool β],sm,by simp[aT,bs]⟩
 | [],b=>simp[aT]at b
 | [_],b=>simp[aT]at b
 | _::_::_::_,b=>simp[aT]at b

noncomputable section
def Bk:List ResultVar->TE->EL->Option (List XV)
 | [],_,_=>some []
 | .tmp t::r,te,l=>(match Bk r te l with
  | some L=>some (jW te t::L)
  | ab=>ab)
 | .cell p ty::r,te,l=>(match wZ ty (jW te p) l with
  | some v=>(match Bk r te l with
   | some L=>some (v::L)
   | ab=>ab)
  | ab=>ab)
theorem C0{φ:Ph}{te:TE}{O:Tm}{l:EL}{S:St}(c:TR φ te O)(d:MR φ l S):∀{rs:List ResultVar} {L:List XV} {K:List AV->Prop},Bk rs te l=some L->(∀L',fD φ L L'->K L')->yi rs O S K
 | [],L,K,h,b=>by
  simp only[Bk]at h;cases h;exact b [] (by simp[fD])
 | .tmp t::r,L,K,h,b=>by
  simp only[Bk]at h
  cases a:Bk r te l with
  | none=>rw[a]at h;cases h
  | some L1 =>
   rw[a]at h;cases h;exact C0 (rs:=r) (K:=fun l=>K (O t::l)) c d a fun L' e=>b _ (by simp only[fD];exact⟨c t,e⟩)
 | .cell p ty::r,L,K,h,b=>by
  simp only[Bk]at h
  cases f:wZ ty (jW te p) l with
  | none=>rw[f]at h;cases h
  | some v =>
   rw[f]at h
   cases a:Bk r te l with
   | none=>rw[a]at h;cases h
   | some L1 =>
    rw[a]at h;cases h;exact EZ f (c p) d fun z g=>C0 (rs:=r) (K:=fun l=>K (z::l)) c d a fun L' e=>b _ (by simp only[fD];exact⟨g,e⟩)
def NJ:List XV->XV
 | [x]=>x
 | l=>.tup l
def Qq(h:fD φ L L'):ER φ (NJ L) (qZ L'):=by
 match L,L',h with
 | [],[],h=>simp only[NJ,qZ,ER];exact⟨_,rfl,h⟩
 | [x],[a],h=>simp only[fD]at h;exact h.1
 | x::y::L,a::b::L',h=>simp only[NJ,qZ,ER];exact⟨_,rfl,h⟩
 | [],_::_,h=>simp[fD]at h
 | _::_,[],h=>simp[fD]at h
 | [_],_::_::_,h=>simp[fD]at h
 | _::_::_,[_],h=>simp[fD]at h
structure XF where
 code:Code
 res:List ResultVar
 N:Nat
 hm:Nat
variable{tbl:Nat->Option XF}
def BY(call:eE)(F:XF)(args:List XV)(nx:Nat)(l:EL):XR:=match jB args.length F.N with
 | true=>(match mA call F.hm 5000 F.code (zV args) nx l with
  | some (e,te,nx',l')=>(match e with
   | .exit _=>ab
   | _=>match Bk F.res te l' with
    | some L=>some (NJ L,nx',l')
    | ab=>ab)
  | ab=>ab)
 | false=>ab
structure RR(f:Nat)(F:XF):Prop where
 rng:(11<=f/\f<270)/\f≠252/\f≠253
 fn:∃fn,ah.funcs[f]? = some fn/\fn.body=some F.code/\fn.results.toList=F.res/\fn.ntmps=F.N
 code:jm F.N F.code=true
 regs:kJ F.hm F.code=true
def Sw(h:fD φ args as'):TR φ (zV args) (Ky as'):=fun t=>by
 rw[Hu];unfold Ky;rw[ig,ig]
 cases e:args[t]? with
 | some x =>
  obtain⟨a,b,c⟩:=h.get e;rw[b];exact c
 | none=>simp[ER]
def E5{call:eE}(m:nd call)(n:uR call){f:Nat}{F:XF}(d:RR f F){args:List XV}{nx:Nat}{l:EL}{r:XV×Nat×EL}(h:BY call F args nx l=some r){φ:Ph}(o:GP φ){as':List AV}(j:fD φ args as'){S:St}(p:MR φ l S){K:AV->St->Prop}(q:XK φ r.1 r.2.2 K):cP f as' S K:=by
 obtain⟨fn,s,t,u,v⟩:=d.fn;unfold BY at h;split at h
 .rename_i b;split at h
  .rename_i e te nx' l' w;have a:as'.length<=F.N:=by rw[j.length];exact cu b
   refine oN s t F.N v d.code a ?_;refine Mq m n F.hm 5000 F.code (zV args) nx l _ d.regs w o (Sw j) p fun ψ O' S' x y k=>?_;rw[u];have fin:∀{L},Bk F.res te l'=some L->r=(NJ L,nx',l')->yi F.res O' S' (fun l=>K (qZ l) S'):=fun c e=>by
    subst e;exact C0 y k c fun L' g=>q ψ _ S' x (Qq g) k
   cases e with
   | exit i=>cases h
   | normal =>
    dsimp only at h;split at h
    .rename_i L c;cases h;exact fin c rfl
    .cases h
   | ret =>
    dsimp only at h;split at h
    .rename_i L c;cases h;exact fin c rfl
    .cases h
  .cases h
 .cases h
mutual
def sM:XV->Bool
 | .int ..=>true
 | .bool _=>true
 | .big _=>true
 | .nil=>true
 | .tup l=>E9 l
 | .agg l=>E9 l
 | _=>false
def E9:List XV->Bool
 | []=>true
 | x::l=>sM x&&E9 l
end
mutual
theorem Je:∀(x:XV),sM x=true->∃z:AV,pI z=true/\∀(φ:Ph) (a:AV),ER φ x a↔a=z
 | .int k n,_=>⟨.int k n,rfl,fun φ a=>by simp[ER]⟩
 | .bool b,_=>⟨.bool b,rfl,fun φ a=>by simp[ER]⟩
 | .big z,_=>⟨.big z,rfl,fun φ a=>by simp[ER]⟩
 | .nil,_=>⟨.nil,rfl,fun φ a=>by simp[ER]⟩
 | .tup l,h=>by
  simp only[sM]at h;obtain⟨L,d,c⟩:=zj l h;refine⟨.tup L,by simpa [pI]using d,fun φ a=>?_⟩
  simp only[ER];exact⟨fun⟨r,e,f⟩=>by rw[e,(c φ r).1 f],fun e=>⟨L,e,(c φ L).2 rfl⟩⟩
 | .agg l,h=>by
  simp only[sM]at h;obtain⟨L,d,c⟩:=zj l h;refine⟨.agg L,by simpa [pI]using d,fun φ a=>?_⟩
  simp only[ER];exact⟨fun⟨r,e,f⟩=>by rw[e,(c φ r).1 f],fun e=>⟨L,e,(c φ L).2 rfl⟩⟩
 | .sl ..,h=>by simp[sM]at h
 | .ptr ..,h=>by simp[sM]at h
 | .lst ..,h=>by simp[sM]at h
 | .pat ..,h=>by simp[sM]at h
 | .fn ..,h=>by simp[sM]at h
 | .any,h=>by simp[sM]at h
 | .nfn,h=>by simp[sM]at h
 | .mfn ..,h=>by simp[sM]at h
theorem zj:∀(l:List XV),E9 l=true->∃L:List AV,Br L=true/\∀(φ:Ph) (r:List AV),fD φ l r↔r=L
 | [],_=>⟨[],rfl,fun φ r=>by cases r<;>simp[fD]⟩
 | x::l,h=>by
  simp only[E9,au]at h;obtain⟨z,b,c⟩:=Je x h.1;obtain⟨L,d,e⟩:=zj l h.2;refine⟨z::L,by simp[Br,b,d],fun φ r=>?_⟩
  cases r with
  | nil=>simp[fD]
  | cons a r=>simp only[fD,jH,c,e]
end
def On(leaf:Nat->List XV->Option XV):Prop:=∀f args v,leaf f args=some v->((11<=f/\f<270)/\f≠252/\f≠253)/\∀φ as',fD φ args as'->∃z,(∀ψ,ER ψ v z)/\PF f as' z
def R2(tbl:Nat->Option XF):Prop:=∀f F,tbl f=some F->RR f F
def RH:EL:=.n (some ab) .e .e
def Jc(isL:Nat->Bool)(leaf:Nat->List XV->Option XV)(tbl:Nat->Option XF)(call:eE)(f:Nat)(args:List XV)(nx:Nat)(l:EL):XR:=match isL f with
  | true=>(match leaf f args with
   | some v=>some (v,nx,l)
   | ab=>ab)
  | false=>(match tbl f with
   | ab=>ab
   | some F=>(match Cl f with
    | true=>(match BY call F args 1 RH with
     | some (v,_,_)=>(match l5 args&&sM v with
      | true=>some (v,nx,l)
      | false=>ab)
     | ab=>ab)
    | false=>BY call F args nx l))
def xa(isL:Nat->Bool)(leaf:Nat->List XV->Option XV)(tbl:Nat->Option XF)(n:Nat):eE:=Nat.rec (motive:=fun _=>eE) (fun _ _ _ _=>ab) (fun _ ih=>Jc isL leaf tbl ih) n
def y5(f:Nat)(args:List XV)(nx:Nat)(l:EL):xa isL leaf tbl 0 f args nx l=ab:=rfl
def zd(n f:Nat)(args:List XV)(nx:Nat)(l:EL):xa isL leaf tbl (n+1) f args nx l=Jc isL leaf tbl (xa isL leaf tbl n) f args nx l:=rfl
def ze:∀n,uR (xa isL leaf tbl n)
 | 0=>fun f args nx l r _ h=>by rw[y5]at h;cases h
 | n+1=>fun f args nx l r a h=>by
  simp only[zd,Jc]at h ⊢
  cases b:isL f with
  | true =>
   rw[b]at h;dsimp only at h ⊢
   cases c:leaf f args with
   | none=>rw[c]at h;cases h
   | some v=>rw[c]at h;cases h;exact⟨rfl,fun _ _=>rfl⟩
  | false =>
   rw[b]at h;dsimp only at h ⊢
   cases d:tbl f with
   | none=>rw[d]at h;cases h
   | some F =>
    rw[d,a]at h;rw[a];dsimp only at h ⊢
    cases e:BY (xa isL leaf tbl n) F args 1 RH with
    | none=>rw[e]at h;cases h
    | some p =>
     obtain⟨v,q⟩:=p;rw[e]at h;dsimp only at h ⊢
     cases g:(l5 args&&sM v)with
     | false=>rw[g]at h;cases h
     | true=>rw[g]at h;cases h;exact⟨rfl,fun _ _=>rfl⟩
def φ0:Ph:=fun i=>if i=0 then some 0 else ab
def z5(i:Nat):eL RH i=if i=0 then some ab else ab:=by
 unfold RH;rw[jY,z6,z6];split
 .rfl
 .split<;>rfl
def MR.empty:MR φ0 RH St.none:=by
 refine⟨fun i a=>?_,fun i X a=>?_,fun i j X Y b a=>?_⟩
 .unfold φ0;rw[z5]at a;by_cases e:i=0
  .rw[ai e]at a;cases a
  .rw[af e]
 .rw[z5]at a;split at a<;>cases a
 .rw[z5]at a;split at a<;>cases a
theorem E4{isL:Nat->Bool}{leaf:Nat->List XV->Option XV}{tbl:Nat->Option XF}(u:On leaf)(w:R2 tbl):∀n,nd (xa isL leaf tbl n)
 | 0=>fun f args nx l r h=>by rw[y5]at h;cases h
 | n+1=>fun f args nx l r h φ as' S K y e g i=>by
  have ih:=E4 u w (isL:=isL) n;simp only[zd,Jc]at h
  cases x:isL f with
  | true =>
   rw[x]at h;dsimp only at h
   cases j:leaf f args with
   | none=>rw[j]at h;cases h
   | some v =>
    rw[j]at h;cases h;obtain⟨k,d⟩:=u f args v j;obtain⟨z,A,m⟩:=d φ as' e;exact⟨k,m.call (i φ z S (Ph.le_refl _) (A φ) g)⟩
  | false =>
   rw[x]at h;dsimp only at h
   cases o:tbl f with
   | none=>rw[o]at h;cases h
   | some F =>
    rw[o]at h;have s:=w f F o;refine⟨s.rng,?_⟩
    cases b:Cl f with
    | false =>
     rw[b]at h;exact E5 ih (ze n) s h y e g i
    | true =>
     rw[b]at h;dsimp only at h
     cases t:BY (xa isL leaf tbl n) F args 1 RH with
     | none=>rw[t]at h;cases h
     | some p =>
      obtain⟨v,q⟩:=p;rw[t]at h;dsimp only at h
      cases c:(l5 args&&sM v)with
      | false=>rw[c]at h;cases h
      | true =>
       rw[c]at h;cases h;simp only[au]at c;obtain⟨z,k,d⟩:=Je v c.2;have:PF f as' z:=PF.of_spec (E5 ih (ze n) s t (φ:=φ0) (by simp[GP,φ0]) (nA _ _ c.1 e) MR.empty fun ψ a S' _ m _=>by
        have:=(d ψ a).1 m;subst this;exact VR.mf k)
       exact this.call (i φ z S (Ph.le_refl _) ((d φ z).2 rfl) g)
end

noncomputable section
def smx(z:Int):Bool:=aN z.natAbs 18446744073709551616
def G9(h:smx z=true):nb z 64:=by
 unfold smx at h;rw[oI]at h;unfold nb;omega
def SQ(op:Int->Int->Option XV):List XV->Option XV
 | [.big a,.big b]=>(match smx a&&smx b with
  | true=>op a b
  | false=>ab)
 | _=>ab
def Um(op:Int->Option XV):List XV->Option XV
 | [.big a]=>(match smx a with
  | true=>op a
  | false=>ab)
 | _=>ab
def LFX(f:Nat)(args:List XV)(v:XV):Prop:=∀φ as',fD φ args as'->∃z,(∀ψ,ER ψ v z)/\PF f as' z
def z9(d:∀a b v,nb a 64->nb b 64->op a b=some v->∃z,(∀ψ,ER ψ v z)/\PF f [.big a,.big b] z){args:List XV}{v:XV}(h:SQ op args=some v):LFX f args v:=by
 unfold SQ at h;split at h
 .rename_i a b;split at h
  .rename_i e;simp only[au]at e;intro φ as' c
   match as',c with
   | [x,y],c =>
    simp only[fD,ER]at c;obtain⟨rfl,rfl,_⟩:=c;exact d a b v (G9 e.1) (G9 e.2) h
   | [],c=>simp[fD]at c
   | [_],c=>simp[fD]at c
   | _::_::_::_,c=>simp[fD]at c
  .cases h
 .cases h
def DG{op:Int->Option XV}(c:∀a v,nb a 64->op a=some v->∃z,(∀ψ,ER ψ v z)/\PF f [.big a] z){args:List XV}{v:XV}(h:Um op args=some v):LFX f args v:=by
 unfold Um at h;split at h
 .rename_i a;split at h
  .rename_i d;intro φ as' b
   match as',b with
   | [x],b =>
    simp only[fD,ER]at b;obtain⟨rfl,_⟩:=b;exact c a v (G9 d) h
   | [],b=>simp[fD]at b
   | _::_::_,b=>simp[fD]at b
  .cases h
 .cases h
def Qm(a:Int):Bool:=decide (-9223372036854775808<=a)&&decide (a<=9223372036854775807)
def JM:List XV->Option XV
 | [.int .i64 a]=>(match Qm a with
  | true=>some (.big a)
  | false=>ab)
 | _=>ab
def Ni:List XV->Option XV
 | [.agg [.int .u64 (.ofNat h),.int .u64 (.ofNat s)],.int .u64 (.ofNat x),.int .u64 (.ofNat y)]=>(match ap h 0&&aN x 4294967296&&aN y 4294967296&&aN (s+x*y) 18446744073709551616 with
  | true=>some (.agg [.int .u64 0,.int .u64 (.ofNat (s+x*y))])
  | false=>ab)
 | _=>ab
def FB:List XV->Option XV
 | [.agg [.int .u64 (.ofNat h),.int .u64 (.ofNat s)],.agg [.int .u64 (.ofNat h'),.int .u64 (.ofNat s')]]=>(match ap h 0&&ap h' 0&&aN s 4611686018427387904&&aN s' 4611686018427387904 with
  | true=>(match jB s' s with
   | true=>some (.tup [.int .i64 (.ofNat (s-s')),.bool true])
   | false=>some (.tup [.int .i64 0,.bool false]))
  | false=>ab)
 | _=>ab
def Mk(f:Nat)(args:List XV):Option XV :=
 match ap f 133 with
 | true=>SQ (fun a b=>some (.big (a+b))) args
 | false=>match ap f 83 with
 | true=>SQ (fun a b=>some (.big (a*b))) args
 | false=>match ap f 192 with
 | true=>SQ (fun a b=>some (.big (a-b))) args
 | false=>match ap f 82 with
 | true=>SQ (fun a b=>match decide (b=0)with
  | true=>ab
  | false=>some (.tup [.big (a/b),.big (a%b),.bool true])) args
 | false=>match ap f 159 with
 | true=>SQ (fun a b=>some (.int .i64 (lG a b))) args
 | false=>match ap f 193 with
 | true=>Um (fun a=>some (.big (-a))) args
 | false=>match ap f 157 with
 | true=>Um (fun a=>some (.big a)) args
 | false=>match ap f 191 with
 | true=>Um (fun a=>some (.int .i64 a.sign)) args
 | false=>match ap f 84 with
 | true=>Um (fun a=>match Qm a with
  | true=>some (.tup [.int .i64 a,.bool true])
  | false=>ab) args
 | false=>match ap f 81 with
 | true=>JM args
 | false=>match ap f 215 with
 | true=>Ni args
 | false=>match ap f 216 with
 | true=>FB args
 | false=>ab
def Nk:Nat:=2^133 ||| 2^83 ||| 2^192 ||| 2^82 ||| 2^159 ||| 2^193 ||| 2^157 ||| 2^191 ||| 2^84 ||| 2^81 ||| 2^215 ||| 2^216
def SY(f:Nat):Bool:=Nat.testBit Nk f
def DQ(h:Qm a=true):-9223372036854775808<=a/\a<=9223372036854775807:=by
 simpa [Qm]using h
def Mj:On Mk:=by
 intro f args v h;have big:∀(z:Int) (ψ:Ph),ER ψ (.big z) (.big z):=fun z ψ=>by simp[ER]
 have int:∀(k:IntKind) (z:Int) (ψ:Ph),ER ψ (.int k z) (.int k z):=fun k z ψ=>by simp[ER]
 have key:((11<=f/\f<270)/\f≠252/\f≠253)/\LFX f args v:=by
  unfold Mk at h
  repeat' (split at h)
  all_goals first
   | (rename_i e;obtain rfl:=ak e;refine⟨by decide,?_⟩)
   | cases h
  .exact z9 (fun a b v c i h=>by cases h;exact⟨_,big _,wC c i dc⟩) h
  .exact z9 (fun a b v c i h=>by cases h;exact⟨_,big _,p9 c i dc⟩) h
  .exact z9 (fun a b v c i h=>by cases h;exact⟨_,big _,Dg c i dc⟩) h
  .refine z9 (fun a b v c i h=>?_) h;split at h
   .cases h
   .rename_i g
    cases h
    exact⟨.tup [.big (a/b),.big (a%b),.bool true],fun ψ=>by simp[ER,fD],Le c i dc (by simpa using g) (bH c)⟩
  .exact z9 (fun a b v c i h=>by cases h;exact⟨_,int _ _,NV c i dc⟩) h
  .exact DG (fun a v c h=>by cases h;exact⟨_,big _,sW c dc⟩) h
  .exact DG (fun a v c h=>by cases h;exact⟨_,big _,rS c dc⟩) h
  .exact DG (fun a v c h=>by cases h;exact⟨_,int _ _,kY c dc⟩) h
  .refine DG (fun a v c h=>?_) h;split at h
   .rename_i g
    cases h
    exact⟨.tup [.int .i64 a,.bool true],fun ψ=>by simp[ER,fD],t8 (DQ g)⟩
   .cases h
  .unfold JM at h;split at h
   .rename_i a;split at h
    .rename_i g
     cases h
     intro φ as' c
     match as',c with
     | [x],c =>
      simp only[fD,ER]at c;obtain⟨rfl,_⟩:=c;exact⟨_,big _,kQ (DQ g).1 (DQ g).2⟩
     | [],c=>simp[fD]at c
     | _::_::_,c=>simp[fD]at c
    .cases h
   .cases h
  .unfold Ni at h;split at h
   .rename_i m s x y;split at h
    .rename_i g;simp only[au,oI]at g
     cases h
     intro φ as' c
     match as',c with
     | [u,v,w],c =>
      simp only[fD,ER]at c;obtain⟨⟨R,rfl,d⟩,rfl,rfl,_⟩:=c
      match R,d with
      | [p,q],d =>
       simp only[fD,ER]at d;obtain⟨rfl,rfl,_⟩:=d;obtain rfl:=ak g.1.1.1;exact⟨.agg [.int .u64 0,.int .u64 (.ofNat (s+x*y))],fun ψ=>by simp[ER,fD],O2 g.1.1.2 g.1.2 g.2⟩
      | [],d=>simp[fD]at d
      | [_],d=>simp[fD]at d
      | _::_::_::_,d=>simp[fD]at d
     | [],c=>simp[fD]at c
     | [_],c=>simp[fD]at c
     | [_,_],c=>simp[fD]at c
     | _::_::_::_::_,c=>simp[fD]at c
    .cases h
   .cases h
  .unfold FB at h;split at h
   .rename_i n s o s';split at h
    .rename_i g;simp only[au,oI]at g;intro φ as' c
     match as',c with
     | [u,w],c =>
      simp only[fD,ER]at c;obtain⟨⟨R,rfl,d⟩,⟨R',rfl,j⟩,_⟩:=c
      match R,R',d,j with
      | [p,q],[p',q'],d,j =>
       simp only[fD,ER]at d j;obtain⟨rfl,rfl,_⟩:=d;obtain⟨rfl,rfl,_⟩:=j;obtain rfl:=ak g.1.1.1;obtain rfl:=ak g.1.1.2;split at h
       .rename_i l
        cases h
        exact⟨.tup [.int .i64 (.ofNat (s-s')),.bool true],fun ψ=>by simp[ER,fD],Kt g.1.2 (cu l)⟩
       .rename_i l
        cases h
        exact⟨.tup [.int .i64 0,.bool false],fun ψ=>by simp[ER,fD],Ku g.2 (by
         rcases aC s s' with h|h
         .exact h
         .rw[Nat.ble_eq_true_of_le h]at l;cases l)⟩
      | [],_,d,_=>simp[fD]at d
      | [_],_,d,_=>simp[fD]at d
      | _::_::_::_,_,d,_=>simp[fD]at d
      | [_,_],[],_,d=>simp[fD]at d
      | [_,_],[_],_,d=>simp[fD]at d
      | [_,_],_::_::_::_,_,d=>simp[fD]at d
     | [],c=>simp[fD]at c
     | [_],c=>simp[fD]at c
     | _::_::_::_,c=>simp[fD]at c
    .cases h
   .cases h
 exact key
end

def jl(d:nb a k)(f:nb b k)(n:k<=8000000000)(g:b≠0):PF 82 [.big a,.big b] (.tup [.big (a/b),.big (a%b),.bool true]):=by
 intro w vs _ c
 match vs,c with
 | [va,vb],c =>
  simp only[aT,bs]at c;refine(I5 va vb a b w.heap.size w (ae _) c.1 c.2.1 (d.nl om) (f.nl om) g).mono ?_;rintro e w' ⟨h,i,rfl,j,l,m⟩;exact⟨_,rfl,by simp only[bs];exact⟨[h,i,.bool true],rfl,by simp only[aT,bs];exact⟨j,l,trivial,trivial⟩⟩,dz.below m⟩
 | [],c=>simp[aT]at c
 | [_],c=>simp[aT]at c
 | _::_::_::_,c=>simp[aT]at c
def Sa:∃k:Nat,271<=k/\k<=300:=⟨300,om,om⟩
noncomputable def KB:Nat:=dq Sa
def mY:271<=KB/\KB<=300:=de Sa
noncomputable def PB:Int:=2^KB
def IP:((2^KB:Nat):Int)=PB:=by unfold PB;rw[Kc];rfl
def GI(h:-PB<z/\z<PB):nb z KB:=by
 have:=IP;unfold nb;generalize (2:Nat)^KB=x at *;omega
def nb.P(h:nb z KB):-PB<z/\z<PB:=by
 have:=IP;unfold nb at h;generalize (2:Nat)^KB=x at *;omega
def R5(h:0<=z/\z<PB):z.toNat<2^KB:=by
 have:=IP;generalize (2:Nat)^KB=x at *;omega

end Go.Proofs.YtdobfmlmenaajaaGreatDoor
