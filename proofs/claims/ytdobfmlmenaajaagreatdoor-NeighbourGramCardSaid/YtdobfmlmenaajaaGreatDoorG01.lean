/-
  Lemmas for NeighbourGram.
-/
import Derived.Test.YtdobfmlmenaajaaGreatDoorProg
import Derived.WalkKit
import Derived.WalkLawsBesides
import Derived.WalkSpells
import Derived.Below
import Derived.Lib.Hide
import Derived.Laws.MakeOwn
import Derived.Laws.OwnMore
import Derived.Laws.NewBlocks
import Derived.Laws.Rows
import Derived.Deep.Draws
import Derived.Deep.QuietTactic
import Derived.BigQuiet
import Derived.Outline
import Derived.KernelRfl
import Derived.Laws.BitsAllLaws
import Derived.Laws.BitsAll
import Derived.StillTailTactics
import Derived.Deep.RegionHeld3
namespace Go.Proofs.YtdobfmlmenaajaaGreatDoor
open Go.RowKit Tryz
open _root_.List renaming replicate→bN,getD→cF
open Tryz renaming prog→ah
open Value renaming slice→ao,bool→aq,int→dh
set_option maxHeartbeats 6400000
set_option maxRecDepth 4096
set_option linter.all false
theorem an{a b:Prop}(h:b)(k:a:=by omega):a∧b:=⟨k,h⟩
theorem om{p:Prop}(h:p:=by omega):p:=h
theorem nn{a b:Nat}(h:a≠b):a≠b∧b≠a:=⟨h,Ne.symm h⟩
theorem kr{p:Prop}(h:p:=by kernel_rfl):p:=h
theorem sm{p:Prop}(h:p:=by simp):p:=h
theorem dc{p:Prop}(h:p:=by decide):p:=h
def aa:=@Nat.add_one_le_iff
def ac:=@Go.Lib.hid
def ae:=@Nat.le_refl
def af:=@if_neg
def ai:=@if_pos
def aj:=@Ne.symm
def ak:=@Nat.eq_of_beq_eq_true
def au:=@Bool.and_eq_true
def ay:=@Nat.mul_comm
def aA:=@Nat.lt_or_ge
def aB:=@Nat.zero_add
def aC:=@Nat.mul_le_mul_right
def aE:=@List.all_eq_true
def aK:=@Int.tmod_eq_emod_of_nonneg
def aL:=@Nat.mul_le_mul_left
def aO:=@if_true
def aP:=@if_false
def aS:=@Int.emod_lt_of_pos
def aU:=@Int.emod_nonneg
def aX:=@Nat.eq_zero_or_pos
def aY:=@List.getElem?_eq_getElem
def a6:=@Nat.mul_assoc
def a9:=@Go.RowKit.Below.refl
def bs:=@Nat.mul_le_mul
def bB:=@List.getD_cons_succ
def bD:=@Bool.false_eq_true
def bG:=@Go.run_underlying
def bH:=@List.forall_mem_cons
def bI:=@List.getD_cons_zero
def bK:=@List.take_of_length_le
def bL:=@Int.natCast_mul
def bM:=@Or.inl
def bO:=@Or.inr
def bQ:=@Nat.pow_succ
def bS:=@Nat.mul_add
def bU:=@Nat.le_trans
def bV:=@List.getElem?_cons_succ
def bW:=@List.not_mem_nil
def bX:=@Go.IntKind.wrap_u64
def bY:=@List.size_toArray
def bZ:=@Nat.pow_le_pow_right
def cb:=@Nat.sub_self
def cc:=@Int.mul_le_mul_of_nonneg_left
def cf:=@Nat.le_of_ble_eq_true
def cg:=@Array.getElem?_eq_getElem
def cj:=@Int.toNat_natCast
def co:=@Int.le_of_lt
def cq:=@Int.mul_le_mul_of_nonneg_right
def ct:=@List.getElem?_eq_none
def cu:=@Nat.add_zero
def cw:=@Go.bodyPost_ret
def cA:=@List.length_cons
def cB:=@Int.mul_le_mul
def cC:=@false_implies
def cD:=@Array.getD_eq_getD_getElem?
def cG:=@List.map_cons
def cH:=@Option.map_eq_some_iff
def cJ:=@Int.natCast_nonneg
def cK:=@bne_self_eq_false
def cL:=@Int.toNat_of_nonneg
def cN:=@Nat.lt_irrefl
def cO:=@List.getElem?_cons_zero
def cQ:=@Nat.succ_mul
def cR:=@Int.mul_comm
def cS:=@Classical.choose_spec
def cT:=@Int.mul_ediv_cancel_left
def cU:=@Int.dvd_mul_of_dvd_right
def cW:=@implies_true
def cX:=@Int.sign_eq_one_of_pos
def cY:=@Int.natAbs_mul
def cZ:=@Int.mul_nonneg
def dd:=@Option.map_some
def df:=@Int.emod_eq_zero_of_dvd
def di:=@Int.emod_add_mul_ediv
def dj:=@List.flatMap_cons
def dp:=@Option.bind_some
def dq:=@Nat.mod_lt
def dr:=@Nat.lt_of_lt_of_le
def dv:=@Nat.div_add_mod
def dw:=@Nat.le_of_lt
def dE:=@Nat.add_mul
def dF:=@Int.eq_of_mul_eq_mul_left
def dH:=@Array.getElem?_setIfInBounds_ne
def dI:=@Nat.mul_zero
def dJ:=@List.mem_cons_of_mem
def dN:=@Nat.lt_trichotomy
def dR:=@Nat.lt_of_le_of_lt
def dS:=@List.getElem?_append_right
def dU:=@Int.dvd_of_emod_eq_zero
def dX:=@List.getElem?_eq_some_iff
def dY:=@List.getElem?_append_left
def dZ:=@Classical.byContradiction
def d6:=@Int.emod_eq_of_lt
def d7:=@Array.getElem?_eq_none
def ed:=@Go.RowKit.Below.setCell
def ef:=@List.mem_cons_self
def et:=@Nat.mul_succ
def ez:=@Nat.mod_eq_of_lt
def eA:=@Nat.div_eq_of_lt
def eB:=@Int.sign_eq_neg_one_of_neg
def eC:=@Int.dvd_mul_of_dvd_left
def eD:=@Array.getElem?_append_left
def eG:=@Option.some.injEq
def eO:=@Nat.sub_zero
def eS:=@beq_self_eq_true
def eT:=@List.getElem?_take_of_lt
def eW:=@Int.one_mul
def eY:=@List.getElem?_toArray
def fm:=@Int.lt_trichotomy
def fv:=@Nat.pow_add
def fx:=@Nat.add_sub_cancel
def fy:=@List.mem_of_getElem?
def fz:=@Int.tdiv_eq_ediv_of_nonneg
def fA:=@Int.natAbs_natCast
def fB:=@Array.getElem?_eq_some_iff
def fH:=@Go.Proofs.Tryz.underlying48
def fI:=@Option.getD_some
def fJ:=@Int.mul_emod
def fS:=@decide_eq_true_eq
def fV:=@List.eq_of_mem_replicate
def fX:=@Nat.div_le_self
def fY:=@Int.pow_succ
def fZ:=@Int.le_trans
def gj:=@Bool.or_eq_true
def gn:=@Nat.pos_of_ne_zero
def gA:=@Array.ext'
def gC:=@List.length_take
def gM:=@Prod.mk.injEq
def gN:=@List.mem_map
def gO:=@List.getD_eq_getElem?_getD
def gP:=@Array.size_append
def gS:=@beq_eq_false_iff_ne
def gU:=@Bool.or_eq_true_iff
def gW:=@Go.Result.andThen_ok
def gX:=@Option.map_none
def gY:=@Nat.min_eq_left
def gZ:=@Int.natCast_add
def ik:=@Array.getElem?_setIfInBounds_self_of_lt
def io:=@Classical.em
def iq:=@Nat.pow_pos
def ir:=@Int.mul_ediv_cancel'
def iG:=@not_false_eq_true
def iI:=@Nat.two_pow_pos
def iM:=@Int.dvd_zero
def iN:=@Int.dvd_refl
def iT:=@Int.mul_assoc
def iY:=@List.mem_range
def jd:=@Int.natAbs_dvd_natAbs
def jf:=@Go.heap_alloc_new
def jg:=@Int.natAbs_ediv_le_natAbs
def jh:=@Int.le_of_mul_le_mul_left
def jn:=@List.length_nil
def jo:=@List.cons.injEq
def jp:=@Int.mul_eq_zero
def jt:=@of_decide_eq_true
def jw:=@Nat.zero_le
def jy:=@Nat.pow_lt_pow_right
def jz:=@Int.dvd_add
def jJ:=@Go.Sem.run_bind
def jN:=@List.replicate_succ
def jO:=@true_and
def jP:=@Int.toNat_zero
def kc:=@Nat.shiftLeft_add_eq_or_of_lt
def ke:=@Nat.add_comm
def kf:=@List.drop_of_length_le
def kg:=@Int.ofNat_le
def ku:=@Option.some.inj
def kv:=@Nat.mul_add_div
def kD:=@Nat.add_assoc
def kL:=@List.length_replicate
def kM:=@Array.getElem?_append
def kQ:=@List.getElem?_map
def kR:=@Bool.not_eq_true'
def lc:=@congrArg
def ld:=@Int.emod_emod_of_dvd
def lv:=@List.map_nil
def lw:=@List.cons_append
def lB:=@Int.sign_eq_zero_iff_zero
def lF:=@List.map_congr_left
def lH:=@Int.natAbs_mul_self
def l7:=@Int.le_of_dvd
def mi:=@Nat.mul_add_mod
def mj:=@Int.ediv_nonneg
def ml:=@Nat.lt_or_gt_of_ne
def mo:=@Bool.false_ne_true
def mA:=@Nat.one_mul
def mB:=@List.length_eq_zero_iff
def mT:=@Go.Proofs.Tryz.underlying2
def mU:=@List.take_succ_eq_append_getElem
def nT:=@Nat.blt_eq
def nU:=@Int.natCast_emod
def nV:=@Int.natCast_ediv
def nX:=@Int.ediv_le_self
def ou:=@Int.mul_pos
def ow:=@Int.mul_neg
def oA:=@Int.ediv_emod_unique
def oY:=@Go.IntKind.wrap_i64
def o5:=@List.mem_filter
def o6:=@Go.wpList_append_own_at
def pS:=@Nat.zero_mul
def pT:=@Nat.mul_lt_mul_of_pos_right
def pU:=@Int.lt_or_le
def p9:=@List.getElem?_take
def qa:=@List.getElem?_drop
def qb:=@Int.ofNat_tmod
def qc:=@Int.add_mul_emod_self_left
def qd:=@Bool.not_false
def qe:=@Array.ext_getElem?
def q8:=@List.drop_eq_getElem_cons
def rb:=@Nat.sub_sub
def rc:=@Nat.mul_one
def rf:=@Int.mul_sub
def rh:=@Int.mul_one
def rJ:=@List.mem_cons
def rK:=@Int.sign_zero
def sB:=@Nat.shiftLeft_eq
def sC:=@Nat.le_mul_of_pos_right
def sD:=@List.getElem?_replicate
def ue:=@beq_iff_eq
def uf:=@Nat.le_of_eq
def ug:=@Int.zero_mul
def uh:=@Int.mul_zero
def vC:=@List.nodup_cons
def vD:=@List.nil_append
def vE:=@List.append_nil
def vJ:=@Int.neg_mul_neg
def vK:=@Int.natCast_one
def wB:=@Go.Proofs.Tryz.underlying195
def wG:=@Nat.div_lt_iff_lt_mul
def wH:=@List.take_append_drop
def wJ:=@Int.mul_tdiv_add_tmod
def wK:=@Int.mul_ediv_add_emod
def wT:=@Go.u64_or_nat
def xm:=@Go.Code.wp_mono
def xP:=@and_true
def xR:=@Nat.testBit_or
def xS:=@List.getElem?_set_ne
def xT:=@List.drop_zero
def xU:=@Int.neg_mul
def xV:=@Int.le_refl
def z5:=@Go.Lib.run_eql_slice_nil
def Ad:=@And.intro
def Af:=@Nat.pow_le_pow_left
def Ag:=@List.filterMap_cons
def AD:=@Go.World.cell?_of_block
def AJ:=@Nat.le_of_dvd
def AN:=@Bool.not_true
def BV:=@Go.Proofs.Tryz.underlying4
def B5:=@List.length_append
def CA:=@Go.run_firstCells_some
def DF:=@ne_eq
def DK:=@List.append_assoc
def DM:=@Int.zero_sub
def DO:=@Int.ediv_neg
def DP:=@Array.all_eq_true_iff_forall_mem
def Fr:=@Go.Proofs.Tryz.results194
def FM:=@List.getElem_mem
def FN:=@List.flatMap_nil
def G6:=@Go.World.ownsRow_nil
def G9:=@Go.Sem.run_pure
def Hf:=@Nat.mul_pos
def Hg:=@List.getLast?_eq_some_getLast
def Hi:=@Int.neg_neg
def Hj:=@Int.dvd_sub
def Hk:=@Int.add_mul
def I0:=@Nat.not_lt_zero
def I1:=@Nat.le_antisymm
def I2:=@List.mem_append
def I3:=@Int.pow_ne_zero
def I4:=@Int.natCast_pow
def I5:=@Int.mul_ediv_mul_of_pos_left
def KA:=@Go.IntKind.wrap_u32
def KM:=@Array.getElem?_append_right
def KR:=@Nat.mod_two_eq_zero_or_one
def KT:=@Nat.lt_of_mul_lt_mul_right
def KU:=@List.take_zero
def M1:=@Go.Proofs.Tryz.ntmps194
def M2:=@Go.Proofs.Tryz.ntmps137
def M8:=@Nat.le_of_mul_le_mul_left
def M9:=@Nat.add_mul_mod_self_left
def NB:=@Int.mul_tdiv_cancel_left
def NC:=@Int.lt_irrefl
def NE:=@Go.RowKit.Below.trod
def NF:=@Go.RowKit.Below.heap_setCell
def NG:=@Array.getElem?_replicate
def PV:=@Go.DataW.trod_int
def Qv:=@Go.Proofs.Tryz.underlying50
def Qw:=@Go.Proofs.Tryz.func194
def Qx:=@Go.Proofs.Tryz.func137
def Qy:=@Go.Proofs.Tryz.func121
def QG:=@Nat.div_div_eq_div_mul
def QH:=@List.getElem?_set_self
def QJ:=@Int.zero_add
def QK:=@Int.ofNat_lt
def QL:=@Int.neg_tmod
def QM:=@Int.emod_neg
def QN:=@Int.emod_def
def QO:=@Int.add_emod
def QP:=@Int.add_comm
def R7:=@List.singleton_append
def R8:=@List.countP_le_length
def Se:=@Array.getElem?_modify
def SG:=@and_self
def SM:=@Nat.pow_one
def SN:=@Nat.or_comm
def SO:=@Nat.mul_pow
def SP:=@Nat.add_mul_div_left
def SQ:=@Int.mul_add
def SR:=@Int.emod_lt
def SU:=@Go.RowKit.Below.heap_alloc
def SV:=@Nat.testBit_two_pow
def SW:=@List.take_succ_cons
def SX:=@Array.length_toList
def SY:=@Go.Proofs.Tryz.results121
def SZ:=@Option.toList_some
def S8:=@Nat.mod_le
def Ta:=@Nat.and_one_is_mod
def Tb:=@List.mem_singleton
def Tc:=@List.mem_replicate
def Td:=@List.mem_filterMap
def Te:=@Int.tmod_lt_of_pos
def Tf:=@Int.lt_or_eq_of_le
def Tg:=@Array.getElem?_map
def Th:=@Go.grownCap_ge
def Ti:=@dif_pos
def Tj:=@Nat.mul_left_comm
def Tk:=@Int.mul_left_comm
def Tl:=@Go.run_callFunc_extern
def Tn:=@false_iff
def To:=@Go.Proofs.Tryz.results87
def Tp:=@Go.Proofs.Tryz.results82
def Tq:=@Go.Proofs.Tryz.results56
def Tr:=@Go.Proofs.Tryz.results33
def Ts:=@Nat.lt_succ_self
def Tt:=@List.any_eq_true
def Tu:=@Int.dvd_antisymm
def Tv:=@Go.u32_or_nat
def Tw:=@Nat.one_ne_zero
def Tx:=@Nat.le_add_left
def Ty:=@List.length_set
def Tz:=@Int.natAbs_tmod
def TA:=@or_false
def TB:=@Go.World.ownsRow_lit
def TC:=@Go.Proofs.Tryz.ntmps196
def TD:=@Go.Proofs.Tryz.ntmps195
def TG:=@Go.Proofs.Tryz.ntmps191
def TH:=@Go.Proofs.Tryz.ntmps189
def TI:=@Go.Proofs.Tryz.ntmps140
def TJ:=@Go.Proofs.Tryz.ntmps121
def TK:=@List.mapM_cons
def TM:=@Int.ofNat_tdiv
def TN:=@Int.natAbs_neg
def TO:=@Go.DataW.trod_struct
def TP:=@Bool.and_false
variable{z:Int}{l xs zs:List Nat}{B B' a b c d g i k n p r vx vy vz x y:Nat}{A D:Option Addr}{t:TypeId}{u v:Value}{w w' wr:World}
def aZ:List Nat->Nat
 | []=>0
 | x::l=>x+4294967296*aZ l
def mF(l:List Nat):Prop:=∀x∈l,x<4294967296
def oo(l:List Nat):Prop:=∀x,l.getLast? = some x->x≠0
def yn(a b:List Nat):aZ (a++b)=aZ a+4294967296^a.length*aZ b:=by
 induction a with
 | nil=>simp[aZ]
 | cons x a ih=>simp only[lw,aZ,ih,cA,bQ];rw[bS,kD,<-a6,ay (4294967296^a.length) 4294967296]
def ic(a:List Nat)(x:Nat):aZ (a++[x])=aZ a+4294967296^a.length*x:=by
 rw[yn];simp[aZ]
def dV(l:List Nat)(k:Nat)(h:k<l.length):aZ (l.take (k+1))=aZ (l.take k)+4294967296^k*l.getD k 0:=by
 rw[mU h,ic,gC,gY (dw h)];simp[cF,aY h]
def mF.getD(h:mF l)(k:Nat):l.getD k 0<4294967296:=by
 rcases aA k l.length with a|a
 .simp only[cF,aY a,fI];exact h _ (FM a)
 .simp[cF,ct a]
def mF.snoc(h:mF l){x:Nat}(b:x<4294967296):mF (l++[x]):=by
 intro y c;rcases I2.1 c with a|a
 .exact h y a
 .rw[Tb.1 a];exact b
def mF.take(h:mF l)(k:Nat):mF (l.take k):=fun x a=>h x (List.mem_of_mem_take a)
def iZ(h:mF l):aZ l<4294967296^l.length:=by
 induction l with
 | nil=>simp[aZ]
 | cons x l ih =>
  have b:=ih (fun y a=>h y (dJ _ a));have c:=h x (ef ..);simp only[aZ,cA,bQ];generalize 4294967296^l.length=p at *;omega
def mO(k:Nat)(l:List Nat)(h:∀j,k<=j->l.getD j 0=0):aZ l=aZ (l.take k):=by
 induction l generalizing k with
 | nil=>simp
 | cons x l ih =>
  cases k with
  | zero =>
   have b:x=0:=by simpa [cF]using h 0 (ae _)
   have a:=ih 0 (fun j _=>by have:=h (j+1) om;simpa [cF]using this)
   simp only[KU,aZ]at a ⊢;omega
  | succ k =>
   have a:=ih k (fun j c=>by have:=h (j+1) om;simpa [cF]using this)
   simp only[SW,aZ];omega
def qE{car:Nat}(h:vz+car*p=vx+vy) :
  vz+p*((car+(x+y))%4294967296)+(car+(x+y))/4294967296*(p*4294967296)=(vx+p*x)+(vy+p*y):=by
 have a:=dv (car+(x+y)) 4294967296;have:p*((car+(x+y))%4294967296)+(car+(x+y))/4294967296*(p*4294967296)=p*(car+(x+y)):=by
  calc
   p*((car+(x+y))%4294967296)+(car+(x+y))/4294967296*(p*4294967296)
   =p*(4294967296*((car+(x+y))/4294967296)+(car+(x+y))%4294967296):=by
     rw[bS];rw[ke];congr 1;rw[ay,a6]
   _=p*(car+(x+y)):=by rw[a]
 rw[kD,this,bS,bS,ay p car];omega
def uq(l:List Nat)(i:Nat)(h:i<l.length):aZ l=aZ (l.take i)+4294967296^i*(l.getD i 0+4294967296*aZ (l.drop (i+1))):=by
 have a:l=l.take i++l[i]::l.drop (i+1):=by rw[List.getElem_cons_drop,wH]
 have b:aZ l=aZ (l.take i++l[i]::l.drop (i+1)):=by rw[<-a]
 rw[b,yn,gC,gY (dw h)];simp[aZ,cF,aY h]
def qN{a b:List Nat}(d:mF a)(c:i<a.length)(g:a.length=b.length)(e:a.drop (i+1)=b.drop (i+1))(h:a.getD i 0<b.getD i 0):aZ a<aZ b:=by
 rw[uq a i c,uq b i om,e];have f:=iZ (d.take i);rw[gC,gY (dw c)]at f;generalize 4294967296^i=p at *;generalize aZ (b.drop (i+1))=v at *;have j:p*(a.getD i 0+4294967296*v)+p<=p*(b.getD i 0+4294967296*v):=by
  rw[<-et];exact aL _ om
 omega
def rP(h:oo l)(a:l≠[]):4294967296^(l.length-1)<=aZ l:=by
 have b:=List.dropLast_concat_getLast a;have c:aZ l=aZ (l.dropLast++[l.getLast a]):=by rw[b]
 rw[c,ic,List.length_dropLast];have e:l.getLast a≠0:=h _ (by rw[Hg a])
 have d:1<=l.getLast a:=om
 calc
  4294967296^(l.length-1)=4294967296^(l.length-1)*1:=om
  _<=4294967296^(l.length-1)*l.getLast a:=aL _ d
  _<=_:=Tx _ _
def o9{a b:List Nat}(c:mF a)(d:oo b)(h:a.length<b.length):aZ a<aZ b:=by
 have f:=iZ c;have g:=rP d (by intro e;subst e;simp at h)
 have i:(4294967296:Nat)^a.length<=4294967296^(b.length-1):=bZ om om;omega
def kO(a b:Nat):Int:=if a<b then -1 else if b<a then 1 else 0
def ln(h:a<b):kO a b=-1:=by simp[kO,h]
def ka(h:b<a):kO a b=1:=by
 have c:¬a<b:=om
 simp[kO,h,c]
def lp(h:a=b):kO a b=0:=by simp[kO,h]
def Ef{bo:Nat}(h:vz+vy=vx+bo*p)(g:bo<=1)(i:x<4294967296)(j:y<4294967296) :
  ∃z b,z=(x+18446744073709551616-bo-y)%4294967296/\b=(x+18446744073709551616-bo-y)%18446744073709551616/9223372036854775808/\z<4294967296/\b<=1 /\
   (vz+p*z)+(vy+p*y)=(vx+p*x)+b*(p*4294967296):=by
 refine⟨_,_,rfl,rfl,om,om,?_⟩
 rcases aA x (bo+y)with d|e
 .have a:(x+18446744073709551616-bo-y)%4294967296=x+4294967296-bo-y:=om
  have c:(x+18446744073709551616-bo-y)%18446744073709551616/9223372036854775808=1:=om
  rw[a,c];have f:p*(x+4294967296-bo-y)+p*y+p*bo=p*x+p*4294967296:=by
   rw[<-bS,<-bS,<-bS];congr 1;omega
  rw[ay bo p]at h;omega
 .have a:(x+18446744073709551616-bo-y)%4294967296=x-bo-y:=om
  have c:(x+18446744073709551616-bo-y)%18446744073709551616/9223372036854775808=0:=om
  rw[a,c];have f:p*(x-bo-y)+p*y+p*bo=p*x:=by
   rw[<-bS,<-bS];congr 1;omega
  rw[ay bo p]at h;omega
def nl(v:Nat):Nat:=if v=0 then 0 else v.log2/32+1
def yL(k:Nat):(4294967296:Nat)^k=2^(32*k):=by
 rw[show(4294967296:Nat)=2^32 from rfl,<-Nat.pow_mul]
def jL{v:Nat}:nl v<=k↔v<4294967296^k:=by
 unfold nl;split
 .subst_vars
  simp[iq]
 .rename_i a;rw[yL,<-Nat.log2_lt a];omega
def fF(h:a<=b):nl a<=nl b:=jL.2 (dR h (jL.1 (ae _)))
def LX(a b:Nat):nl (a+b)<=max (nl a) (nl b)+1:=by
 rw[jL,bQ];have c:a<4294967296^(max (nl a) (nl b)):=jL.1 om;have d:b<4294967296^(max (nl a) (nl b)):=jL.1 om;generalize 4294967296^(max (nl a) (nl b))=p at *;omega
def Rh(a b:Nat):nl (a*b)<=nl a+nl b:=by
 rw[jL,fv];exact Nat.mul_lt_mul'' (jL.1 (ae _)) (jL.1 (ae _))
def CR(b:mF xs)(c:oo xs):xs.length=nl (aZ xs):=by
 apply I1
 .rcases aX xs.length with h|h
  .omega
  .have f:=rP c (by intro e;subst e;simp at h)
   rcases aA (nl (aZ xs)) xs.length with a|a
   .have d:nl (aZ xs)<=xs.length-1:=om
    have g:=jL.1 d;omega
   .exact a
 .exact jL.2 (iZ b)
def sg(neg:Bool)(v:Nat):Int:=if neg then -(v:Int)else v
def fK(neg:Bool)(v:Nat):(sg neg v).natAbs=v:=by cases neg<;>simp[sg]
def Ga(neg:Bool)(v:Nat):sg (!neg) v=-sg neg v:=by cases neg<;>simp[sg]
def sN(neg:Bool):sg neg 0=0:=by cases neg<;>simp[sg]

def mS(a:Addr)(n:Nat):(a.add n).block=a.block:=by unfold Addr.add;split<;>rfl
def fQ(w:World)(g:Nat)(t:TypeId)(cs:Array Value):Prop:=w.heap[g]? = some (.cells cs t (0,0))
section
variable {w w':World} {g:Nat} {t:TypeId} {cs:Array Value}
def fQ.lt(h:fQ w g t cs):g<w.heap.size:=by
 rcases aA g w.heap.size with a|b
 .exact a
 .unfold fQ at h;rw[d7 b]at h;cases h
def fQ.cell(h:fQ w g t cs)(i:Nat):w.cell? ⟨g,i,none⟩=cs[i]?:=cell_of_row w g i cs t (0,0) h
def fQ.frozen(h:fQ w g t cs)(i:Nat):w.frozen? ⟨g,i,none⟩=false:=by
 unfold fQ at h;simp[World.frozen?,h]
def fQ.new(w:World)(t:TypeId)(cs:Array Value):fQ (w.alloc (.cells cs t)) w.heap.size t cs:=jf w _
def fQ.set_(h:fQ w g t cs)(i:Nat)(u:Value):fQ (w.setCell ⟨g,i,none⟩ u) g t (cs.setIfInBounds i u):=by
 unfold fQ at h ⊢;simp[World.setCell,Se,h]
def fQ.below(h:fQ w g t cs)(a:Below B w w')(b:g<B):fQ w' g t cs:=(a.block g b).trans h
end
def dO(w w':World):Prop:=∃n,w'=w.drewN n
def dO.refl(w:World):dO w w:=⟨0,rfl⟩
def dO.more(h:dO w w')(n:Nat):dO w (w'.drewN n):=by
 obtain⟨k,rfl⟩:=h;exact⟨k+n,by rw[World.drewN_drewN]⟩
def dO.below(h:dO w w')(B:Nat):Below B w w':=by
 obtain⟨k,rfl⟩:=h;exact⟨rfl,rfl,rfl,ae _,fun _ _=>rfl⟩
def dO.heap(h:dO w w'):w'.heap=w.heap:=by obtain⟨k,rfl⟩:=h;rfl
def dO.cell(h:dO w w')(a:Addr):w'.cell? a=w.cell? a:=by obtain⟨k,rfl⟩:=h;rfl
def cp(w:World)(B:Nat)(A:Option Addr)(n:Nat)(xs:List Nat):Prop :=
 xs.length=n/\mF xs/\(0<n->∃ad:Addr,A=some ad/\ad.block<B/\∀j,j<n->w.cell? (ad.add j)=some (.int .u32 (xs.getD j 0)))
def cp.below(h:cp w B A n xs)(a:Below B' w w')(g:B<=B'):cp w' B A n xs :=
 ⟨h.1,h.2.1,fun b=>by
  obtain⟨ad,e,c,d⟩:=h.2.2 b;exact⟨ad,e,c,fun j f=>(a.cell (by rw[mS];omega)).trans (d j f)⟩⟩
def cp.still(h:cp w B A n xs)(a:dO w w'):cp w' B A n xs :=
 h.below (a.below B) (ae _)
def cp.more(h:cp w B A n xs)(c:B<=B'):cp w B' A n xs :=
 ⟨h.1,h.2.1,fun a=>by
  obtain⟨ad,e,d,b⟩:=h.2.2 a;exact⟨ad,e,om,b⟩⟩
def cp.at_(h:cp w B A n xs){k:Nat}(a:k<n) :
  ∃(ad:Addr) (x:Nat),A=some ad/\ad.block<B/\xs.getD k 0=x/\x<4294967296/\w.cell? (ad.add k)=some (.int .u32 x):=by
 obtain⟨ad,e,b,c⟩:=h.2.2 om;exact⟨ad,_,e,b,rfl,h.2.1.getD k,c k a⟩
def cp.take(h:cp w B A n xs){k:Nat}(d:k<=n):cp w B A k (xs.take k) :=
 ⟨by rw[gC,h.1];omega,h.2.1.take k,fun f=>by
  obtain⟨ad,e,a,b⟩:=h.2.2 om;exact⟨ad,e,a,fun j c=>by rw[b j om];simp[cF,c]⟩⟩
def dC(zs:List Nat)(r:Nat):Array Value:=((zs++bN r 0).map (fun x:Nat=>dh .u32 x)).toArray
def l0(zs:List Nat)(r k:Nat)(h:k<zs.length+r):(dC zs r)[k]? = some (.int .u32 ((zs++bN r 0).getD k 0)):=by
 have a:k<(zs++bN r 0).length:=by simpa using h
 simp only[dC,eY,kQ,aY a,dd,cF,fI]
def Ar(zs:List Nat)(r x:Nat):(dC zs (r+1)).setIfInBounds zs.length (.int .u32 x)=dC (zs++[x]) r:=by
 simp[dC,jN]
def At(r:Nat):dC [] r=Array.replicate r (.int .u32 0):=by simp[dC]
def cp.ofBlk(h:fQ w g 136 (dC zs r))(a:mF zs){B:Nat}(b:g<B)(c:r=0):cp w B (some ⟨g,0,none⟩) zs.length zs :=
 ⟨rfl,a,fun _=>⟨_,rfl,b,fun j e=>by
  subst c;have d:(⟨g,0,none⟩:Addr).add j=⟨g,j,none⟩:=by unfold Addr.add;split<;>simp_all
  rw[d,h.cell,l0 _ _ _ om];simp⟩⟩
def CN(n:Nat)(b:n<=1073741824)(w:World) :
  (Instr.makeSlice 48 (.int .i64 n) (.int .i64 n)).run ah w=.ok (.slice (some ⟨w.heap.size,0,none⟩) n n) (w.alloc (.cells (dC [] n) 136)):=by
 have h:=run_make (P:=ah) w 48 136 Tryz.t136 (.int .u32 0) fH kr kr .i64 .i64 (n:Int) (n:Int) om om (by show(4:Int)*(n:Int)<=_;omega) om
 have a:Tryz.t136.size=1:=by kernel_rfl
 have e:madeCells (dh .u32 0).cells ((n:Int).toNat*Tryz.t136.size)=dC [] n:=by
  rw[a,rc,cj,At];apply Array.ext
  .simp[madeCells]
  .intro i c d;simp[madeCells,Value.cells,Nat.mod_one]
 rw[e,cj]at h;exact h

def pF(w:World)(v:Nat)(e:Ending)(w':World):Prop :=
 ∃(A:Option Addr) (n c:Nat) (zs:List Nat),e=.returned (.slice A n c)/\n<=c/\cp w' w'.heap.size A n zs/\oo zs/\aZ zs=v/\Below w.heap.size w w'
def sK(h:0<k->xs.getD (k-1) 0≠0)(d:k<=xs.length):oo (xs.take k):=by
 intro x a;rcases aX k with b|b
 .subst b;simp at a
 .have c:=h b;rw[List.getLast?_eq_getElem?,gC,gY d,eT om]at a;simp only[cF,a,fI]at c;exact c
def kw(A:Option Addr)(n c B:Nat)(xs:List Nat)(w:World)(hn:n<=c)(hm:n<=9223372036854775807)(h:cp w B A n xs) :
  Calls ah 136 #[.slice A n c] w fun e w'=>(∃k,k<=n/\e=.returned (.slice A k c)/\cp w B A k (xs.take k)/\oo (xs.take k)/\aZ (xs.take k)=aZ xs)/\w=w':=by
 have HH:=ac h;clear h
 go_enter func136,ntmps136
 go_wp2
 go_loop [0] (fun s=>∃k:Nat,k<=n/\s=.slice A k c/\Hid (∀j,k<=j->xs.getD j 0=0)) (fun s=>match s with|.slice _ k _=>k|_=>0)
 case atStart=>exact⟨n,ae _,rfl,ac (fun j hj=>by simp[cF,ct (show xs.length<=j by rw[HH.out.1];exact hj)])⟩
 case round =>
  obtain⟨k,hk,rfl,hz⟩:=hrel;by_cases h0:k=0
  .subst h0;go_wp2;go_ret;exact⟨⟨0,om,rfl,HH.out.take om,sK (fun h=>absurd h om) om,(mO 0 xs hz.out).symm⟩,rfl⟩
  .obtain⟨m,rfl⟩:∃m,k=m+1:=⟨k-1,om⟩
   obtain⟨ad,x,rfl,_,hx',_,hx⟩:=HH.out.at_ (k:=m) om;have HX:=ac hx';clear hx';by_cases hx0:x=0
   .subst hx0;go_wp2;refine⟨⟨m,om,rfl,ac fun j hj=>?_⟩,sm⟩
    rcases aA m j with h|h
    .exact hz.out j h
    .obtain rfl:j=m:=om
     exact HX.out
   .have hb1:((x:Int)==0)=false:=by simp;omega
    go_wp2;go_ret;exact⟨⟨m+1,hk,rfl,HH.out.take hk,sK (fun _=>by rw[fx,HX.out];exact hx0) (by rw[HH.out.1];exact hk),(mO (m+1) xs hz.out).symm⟩,rfl⟩
def iF(w wr:World)(zs:List Nat)(r:Nat):Prop:=Below w.heap.size w wr/\fQ wr w.heap.size 136 (dC zs r)
def iF.start(w:World)(r:Nat):iF w (w.alloc (.cells (dC [] r) 136)) [] r:=⟨(a9 _ _).alloc (ae _) _,fQ.new _ _ _⟩
def iF.drewN(h:iF w wr zs r)(q:Nat):iF w (wr.drewN q) zs r:=⟨⟨h.1.os,h.1.tape,h.1.output,h.1.size,h.1.block⟩,h.2⟩
def iF.put(h:iF w wr zs (r+1))(k x:Nat)(a:k=zs.length):iF w (wr.setCell ⟨w.heap.size,k,none⟩ (.int .u32 x)) (zs++[x]) r:=by
 subst a;refine⟨h.1.setCell (ae _) _,?_⟩;have:=h.2.set_ zs.length (.int .u32 x)
 rwa [Ar]at this
def iF.old(h:iF w wr zs r)(a:k<zs.length+r):∃u,wr.cell? ⟨w.heap.size,k,none⟩=some u/\wr.frozen? ⟨w.heap.size,k,none⟩=false :=
 ⟨_,(h.2.cell k).trans (l0 zs r k a),h.2.frozen k⟩
def PG(xs ys zs:List Nat)(k car:Nat):Prop:=zs.length=k/\mF zs/\aZ zs+car*4294967296^k=aZ (xs.take k)+aZ (ys.take k)
def Kl(A B:Option Addr)(n m c d L:Nat)(xs ys:List Nat)(w:World)(hmn:m<=n)(hn:n<=536870912)(hL:L<=w.heap.size)(hx:cp w L A n xs)(hy:cp w L B m ys) :
  Calls ah 138 #[.slice A n c,.slice B m d] w (pF w (aZ xs+aZ ys)):=by
 have hmk:=CN (n+1) om;rw[show((n+1:Nat):Int)=(n:Int)+1 from by omega]at hmk
 have hlt:¬(n<m):=om
 have HX:=ac hx;clear hx;have HY:=ac hy;clear hy
 go_enter func138,ntmps138
 go_wp2;clear hmk
 go_loopw [6,22] (fun cv iv wr=>∃(k car:Nat) (zs:List Nat),k<=m/\iv=.int .i64 k/\cv=.int .u64 car/\car<=1/\Hid (iF w wr zs (n+1-k))/\Hid (PG xs ys zs k car)) (fun _ iv _=>m-(intOf iv).toNat)
 case atStart=>exact⟨0,0,[],om,rfl,rfl,om,ac (iF.start w (n+1)),ac ⟨rfl,by simp[mF],by simp[aZ]⟩⟩
 case round =>
  obtain⟨k,car,zs,hk,rfl,rfl,hcar,HF,HS⟩:=hrel;by_cases hkm:k<m
  .obtain⟨ad,x,rfl,hab,hxx,hx4,h1⟩:=(HX.out.below HF.out.1 hL).at_ (k:=k) om;obtain⟨bd,y,rfl,hbb,hyy,hy4,h2⟩:=(HY.out.below HF.out.1 hL).at_ (k:=k) om;obtain⟨u,hu,hf⟩:=HF.out.old (k:=k) (by have:=HS.out.1;omega)
   have HXX:=ac hxx;clear hxx;have HYY:=ac hyy;clear hyy;have hkn:(k:Int)<n:=om
   have hkm':(k:Int)<m:=om
   have hk0:(0:Int)<=k:=om
   go_wp2
   go_quiet (fail)
   go_wp2
   go_roundw
   case rel =>
    exact⟨k+1,(car+(x+y))/4294967296,zs++[(car+(x+y))%4294967296],om,by go_num,by go_num,om,
     ac (by
      have h3:n+1-k=(n+1-(k+1))+1:=om
      have h4:=HF.out;rw[h3]at h4;have h5:=(h4.drewN nq).put k ((car+(x+y))%4294967296) HS.out.1.symm;exact h5),
     ac (by
      obtain⟨s1,s2,s3⟩:=HS.out;refine⟨by simp[s1],s2.snoc om,?_⟩
      rw[ic,s1,dV _ _ (by rw[HX.out.1];omega),dV _ _ (by rw[HY.out.1];omega),HXX.out,HYY.out,bQ]
      exact qE s3)⟩
   case measure=>simp[intOf];omega
  .obtain rfl:k=m:=om
   go_wp2
   go_loopw [6,51] (fun cv iv wr=>∃(i car:Nat) (zs:List Nat),i<=n-k/\iv=.int .i64 i/\cv=.int .u64 car/\car<=1/\Hid (iF w wr zs (n+1-(k+i)))/\Hid (PG xs ys zs (k+i) car)) (fun _ iv _=>n-k-(intOf iv).toNat)
   case atStart=>exact⟨0,car,zs,om,rfl,rfl,hcar,HF,HS⟩
   case round =>
    clear HF HS hcar;obtain⟨i,car,zs,hi,rfl,rfl,hcar,HF,HS⟩:=hrel;by_cases hin:i<n-k
    .obtain⟨ad,x,rfl,hab,hxx,hx4,h1⟩:=(HX.out.below HF.out.1 hL).at_ (k:=k+i) om;obtain⟨u,hu,hf⟩:=HF.out.old (k:=k+i) (by have:=HS.out.1;omega)
     have HXX:=ac hxx;clear hxx;have hkn:(k:Int)+i<n:=om
     have hkn1:(k:Int)+i<n+1:=om
     have hk0:(0:Int)<=(k:Int)+i:=om
     have hti:((k:Int)+i).toNat=k+i:=om
     have hlt2:(i:Int)<(n:Int)-k:=om
     go_wp2
     go_roundw
     case rel =>
      exact⟨i+1,(car+x)/4294967296,zs++[(car+x)%4294967296],om,by go_num,by go_num,om,
       ac (by
        have h3:n+1-(k+i)=(n+1-(k+(i+1)))+1:=om
        have h4:=HF.out;rw[h3]at h4;have h5:=h4.put (k+i) ((car+x)%4294967296) HS.out.1.symm;exact h5),
       ac (by
        obtain⟨s1,s2,s3⟩:=HS.out;refine⟨by simp[s1];omega,s2.snoc om,?_⟩
        have hyt:∀r,k<=r->ys.take r=ys:=fun r hr=>bK (by rw[HY.out.1];exact hr)
        rw[hyt _ om]at s3 ⊢;rw[ic,s1,show k+(i+1)=k+i+1 from by omega,dV _ _ (by rw[HX.out.1];omega),HXX.out,bQ]
        have:=qE (p:=4294967296^(k+i)) (x:=x) (y:=0) s3;simpa using this)⟩
     case measure=>simp[intOf];omega
    .obtain rfl:i=n-k:=om
     have hkn:k+(n-k)=n:=om
     obtain⟨u,hu,hf⟩:=HF.out.old (k:=n) (by have:=HS.out.1;omega)
     have hge:¬(((n-k:Nat):Int)<(n:Int)-k):=om
     go_wp2_with fail
     have h4:=HF.out;rw[show n+1-(k+(n-k))=0+1 from by omega]at h4
     have hl:zs.length=n:=by rw[HS.out.1,hkn]
     have h5:=h4.put n car hl.symm;have hlim:mF (zs++[car]):=HS.out.2.1.snoc om;have hU:=cp.ofBlk h5.2 hlim h5.2.lt rfl;rw[show(zs++[car]).length=n+1 from by simp[hl]]at hU
     have hB5:=h5.1;have hv:aZ (zs++[car])=aZ xs+aZ ys:=by
      obtain⟨s1,s2,s3⟩:=HS.out;rw[ic,hl,ay];rw[hkn,bK (by rw[HX.out.1];exact ae _),bK (by rw[HY.out.1];exact hmn)]at s3
      exact s3
     clear h4 h5 HF HS hu hf;have HU:=ac hU;clear hU;have HV:=ac hv;clear hv;have HB:=ac hB5;clear hB5;refine(kw _ _ _ _ _ _ (ae _) om HU.out).mono ?_;rintro e w' ⟨⟨r,hr,rfl,hU2,hT,hv2⟩,rfl⟩;have HU2:=ac hU2;clear hU2;have HV2:=ac hv2;clear hv2;go_wp2;go_ret;exact⟨_,_,_,_,rfl,hr,HU2.out,hT,HV2.out.trans HV.out,HB.out⟩
def Kk(A B:Option Addr)(n m c d L:Nat)(xs ys:List Nat)(w:World)(hmn:m<n)(hn:n<=536870912)(hL:L<=w.heap.size)(hx:cp w L A n xs)(hy:cp w L B m ys) :
  Calls ah 138 #[.slice B m d,.slice A n c] w (pF w (aZ ys+aZ xs)):=by
 have hmk:=CN (n+1) om;rw[show((n+1:Nat):Int)=(n:Int)+1 from by omega]at hmk
 have hlt:m<n:=hmn;have HX:=ac hx;clear hx;have HY:=ac hy;clear hy
 go_enter func138,ntmps138
 go_wp2;clear hmk
 go_loopw [6,22] (fun cv iv wr=>∃(k car:Nat) (zs:List Nat),k<=m/\iv=.int .i64 k/\cv=.int .u64 car/\car<=1/\Hid (iF w wr zs (n+1-k))/\Hid (PG xs ys zs k car)) (fun _ iv _=>m-(intOf iv).toNat)
 case atStart=>exact⟨0,0,[],om,rfl,rfl,om,ac (iF.start w (n+1)),ac ⟨rfl,by simp[mF],by simp[aZ]⟩⟩
 case round =>
  obtain⟨k,car,zs,hk,rfl,rfl,hcar,HF,HS⟩:=hrel;by_cases hkm:k<m
  .obtain⟨ad,x,rfl,hab,hxx,hx4,h1⟩:=(HX.out.below HF.out.1 hL).at_ (k:=k) om;obtain⟨bd,y,rfl,hbb,hyy,hy4,h2⟩:=(HY.out.below HF.out.1 hL).at_ (k:=k) om;obtain⟨u,hu,hf⟩:=HF.out.old (k:=k) (by have:=HS.out.1;omega)
   have HXX:=ac hxx;clear hxx;have HYY:=ac hyy;clear hyy;have hkn:(k:Int)<n:=om
   have hkm':(k:Int)<m:=om
   have hk0:(0:Int)<=k:=om
   go_wp2
   go_quiet (fail)
   go_wp2
   go_roundw
   case rel =>
    exact⟨k+1,(car+(x+y))/4294967296,zs++[(car+(x+y))%4294967296],om,by go_num,by go_num,om,
     ac (by
      have h3:n+1-k=(n+1-(k+1))+1:=om
      have h4:=HF.out;rw[h3]at h4;have h5:=(h4.drewN nq).put k ((car+(x+y))%4294967296) HS.out.1.symm;exact h5),
     ac (by
      obtain⟨s1,s2,s3⟩:=HS.out;refine⟨by simp[s1],s2.snoc om,?_⟩
      rw[ic,s1,dV _ _ (by rw[HX.out.1];omega),dV _ _ (by rw[HY.out.1];omega),HXX.out,HYY.out,bQ]
      exact qE s3)⟩
   case measure=>simp[intOf];omega
  .obtain rfl:k=m:=om
   go_wp2
   go_loopw [6,51] (fun cv iv wr=>∃(i car:Nat) (zs:List Nat),i<=n-k/\iv=.int .i64 i/\cv=.int .u64 car/\car<=1/\Hid (iF w wr zs (n+1-(k+i)))/\Hid (PG xs ys zs (k+i) car)) (fun _ iv _=>n-k-(intOf iv).toNat)
   case atStart=>exact⟨0,car,zs,om,rfl,rfl,hcar,HF,HS⟩
   case round =>
    clear HF HS hcar;obtain⟨i,car,zs,hi,rfl,rfl,hcar,HF,HS⟩:=hrel;by_cases hin:i<n-k
    .obtain⟨ad,x,rfl,hab,hxx,hx4,h1⟩:=(HX.out.below HF.out.1 hL).at_ (k:=k+i) om;obtain⟨u,hu,hf⟩:=HF.out.old (k:=k+i) (by have:=HS.out.1;omega)
     have HXX:=ac hxx;clear hxx;have hkn:(k:Int)+i<n:=om
     have hkn1:(k:Int)+i<n+1:=om
     have hk0:(0:Int)<=(k:Int)+i:=om
     have hti:((k:Int)+i).toNat=k+i:=om
     have hlt2:(i:Int)<(n:Int)-k:=om
     go_wp2
     go_roundw
     case rel =>
      exact⟨i+1,(car+x)/4294967296,zs++[(car+x)%4294967296],om,by go_num,by go_num,om,
       ac (by
        have h3:n+1-(k+i)=(n+1-(k+(i+1)))+1:=om
        have h4:=HF.out;rw[h3]at h4;have h5:=h4.put (k+i) ((car+x)%4294967296) HS.out.1.symm;exact h5),
       ac (by
        obtain⟨s1,s2,s3⟩:=HS.out;refine⟨by simp[s1];omega,s2.snoc om,?_⟩
        have hyt:∀r,k<=r->ys.take r=ys:=fun r hr=>bK (by rw[HY.out.1];exact hr)
        rw[hyt _ om]at s3 ⊢;rw[ic,s1,show k+(i+1)=k+i+1 from by omega,dV _ _ (by rw[HX.out.1];omega),HXX.out,bQ]
        have:=qE (p:=4294967296^(k+i)) (x:=x) (y:=0) s3;simpa using this)⟩
     case measure=>simp[intOf];omega
    .obtain rfl:i=n-k:=om
     have hkn:k+(n-k)=n:=om
     obtain⟨u,hu,hf⟩:=HF.out.old (k:=n) (by have:=HS.out.1;omega)
     have hge:¬(((n-k:Nat):Int)<(n:Int)-k):=om
     go_wp2_with fail
     have h4:=HF.out;rw[show n+1-(k+(n-k))=0+1 from by omega]at h4
     have hl:zs.length=n:=by rw[HS.out.1,hkn]
     have h5:=h4.put n car hl.symm;have hlim:mF (zs++[car]):=HS.out.2.1.snoc om;have hU:=cp.ofBlk h5.2 hlim h5.2.lt rfl;rw[show(zs++[car]).length=n+1 from by simp[hl]]at hU
     have hB5:=h5.1;have hv:aZ (zs++[car])=aZ xs+aZ ys:=by
      obtain⟨s1,s2,s3⟩:=HS.out;rw[ic,hl,ay];rw[hkn,bK (by rw[HX.out.1];exact ae _),bK (by rw[HY.out.1];exact dw hmn)]at s3
      exact s3
     clear h4 h5 HF HS hu hf;have HU:=ac hU;clear hU;have HV:=ac hv;clear hv;have HB:=ac hB5;clear hB5;refine(kw _ _ _ _ _ _ (ae _) om HU.out).mono ?_;rintro e w' ⟨⟨r,hr,rfl,hU2,hT,hv2⟩,rfl⟩;have HU2:=ac hU2;clear hU2;have HV2:=ac hv2;clear hv2;go_wp2;go_ret;exact⟨_,_,_,_,rfl,hr,HU2.out,hT,(HV2.out.trans HV.out).trans (ke _ _),HB.out⟩
def zM(A B:Option Addr)(n m c d L:Nat)(xs ys:List Nat)(w:World)(f:n<=536870912)(g:m<=536870912)(a:L<=w.heap.size)(b:cp w L A n xs)(e:cp w L B m ys) :
  Calls ah 138 #[.slice A n c,.slice B m d] w (pF w (aZ xs+aZ ys)):=by
 rcases aA n m with h|h
 .exact Kk B A m n d c L ys xs w h g a e b
 .exact Kl A B n m c d L xs ys w h f a b e

def qW(h:i<xs.length):xs.drop i=xs.getD i 0::xs.drop (i+1):=by
 rw[q8 h];simp[cF,aY h]
def gR(A B:Option Addr)(n m c d L:Nat)(xs ys:List Nat)(w:World)(hn:n<=9223372036854775807)(hm:m<=9223372036854775807)(hx:cp w L A n xs)(hy:cp w L B m ys)(tx:oo xs)(ty:oo ys) :
  Calls ah 195 #[.slice A n c,.slice B m d] w fun e w'=>e=.returned (.int .i64 (kO (aZ xs) (aZ ys)))/\dO w w':=by
 have HX:=ac hx;clear hx;have HY:=ac hy;clear hy;have TX:=ac tx;clear tx;have TY:=ac ty;clear ty;by_cases h1:n<m
 .have hr:=ac (ln (o9 HX.out.2.1 TY.out (by rw[HX.out.1,HY.out.1];exact h1)))
  go_enter func195,TD
  go_wp2;go_ret;exact⟨by rw[hr.out];rfl,dO.refl _⟩
 by_cases h2:m<n
 .have hr:=ac (ka (o9 HY.out.2.1 TX.out (by rw[HX.out.1,HY.out.1];exact h2)))
  go_enter func195,TD
  go_wp2;go_ret;exact⟨by rw[hr.out];rfl,dO.refl _⟩
 obtain rfl:n=m:=om
 go_enter func195,TD
 go_wp2
 go_loopw [5] (fun iv wr=>∃(k:Nat),k<=n/\iv=.int .i64 ((k:Int)-1)/\Hid (dO w wr)/\Hid (xs.drop k=ys.drop k)) (fun iv _=>(intOf iv+1).toNat)
 case atStart=>exact⟨n,om,rfl,ac (dO.refl w),ac (by rw[kf (by rw[HX.out.1];omega),kf (by rw[HY.out.1];omega)])⟩
 case round =>
  obtain⟨k,hk,rfl,HQ,HD⟩:=hrel;by_cases h0:k=0
  .subst h0;have hr:=ac (lp (show aZ xs=aZ ys by have:=HD.out;simp only[xT]at this;rw[this]))
   go_wp2;go_ret;exact⟨by rw[hr.out];rfl,HQ.out⟩
  .obtain⟨i,rfl⟩:∃i,k=i+1:=⟨k-1,om⟩
   obtain⟨ad,x,rfl,_,hxx,hx4,h3⟩:=(HX.out.still HQ.out).at_ (k:=i) om;obtain⟨bd,y,rfl,_,hyy,hy4,h4⟩:=(HY.out.still HQ.out).at_ (k:=i) om;have HXX:=ac hxx;clear hxx;have HYY:=ac hyy;clear hyy;have e1:((i+1:Nat):Int)-1=(i:Int):=om
   rw[e1];clear e1;have hi0:(0:Int)<=i:=om
   have hin:(i:Int)<n:=om
   rcases dN x y with hlt|heq|hgt
   .have hr:=ac (ln (qN HX.out.2.1 (i:=i) (by rw[HX.out.1];omega) (by rw[HX.out.1,HY.out.1]) HD.out (by rw[HXX.out,HYY.out];exact hlt)))
    go_wp2
    go_quiet (fail)
    go_wp2;go_ret;exact⟨by rw[hr.out];rfl,by repeat' (first|exact HQ.out|apply dO.more)⟩
   .subst heq;go_wp2
    go_quiet (fail)
    go_wp2
    go_quiet (fail)
    go_wp2
    go_roundw
    case rel=>exact⟨i,om,rfl,ac (by repeat' (first|exact HQ.out|apply dO.more)),ac (by rw[qW (by rw[HX.out.1];omega),qW (xs:=ys) (by rw[HY.out.1];omega),HXX.out,HYY.out,HD.out])⟩
    case measure=>simp[intOf]
   .have hr:=ac (ka (qN HY.out.2.1 (i:=i) (by rw[HY.out.1];omega) (by rw[HX.out.1,HY.out.1]) HD.out.symm (by rw[HXX.out,HYY.out];exact hgt)))
    go_wp2
    go_quiet (fail)
    go_wp2
    go_quiet (fail)
    go_wp2;go_ret;exact⟨by rw[hr.out];rfl,by repeat' (first|exact HQ.out|apply dO.more)⟩

def Gl(c:a<4294967296):a ||| x*4294967296=a+x*4294967296:=by
 have h:=kc (i:=32) (b:=a) (by simpa using c) x
 rw[sB]at h;rw[SN,<-h,ke]
def yp(b:a<4294967296)(c:x<4294967296):bits .or .u64 (a:Int) ((x:Int)*4294967296)=((a+x*4294967296:Nat):Int):=by
 have h:=wT a (x*4294967296) om om;rw[Gl b]at h;rw[<-h];rfl
def oC(A:Option Addr)(n c L:Nat)(xs:List Nat)(w:World)(hn:n<=2)(hx:cp w L A n xs) :
  Calls ah 141 #[.slice A n c] w fun e w'=>e=.returned (.int .u64 (aZ xs))/\w=w':=by
 have HX:=ac hx;clear hx
 go_enter func141,ntmps141
 go_wp2
 go_loop [3,8] (fun v i=>∃k:Nat,k<=n/\i=.int .i64 k/\v=.int .u64 (aZ (xs.take k))) (fun _ i=>n-(intOf i).toNat)
 case atStart=>exact⟨0,jw _,rfl,by simp[aZ]⟩
 case round =>
  obtain⟨k,hk,rfl,rfl⟩:=hrel;by_cases hkn:k<n
  .obtain⟨ad,x,rfl,_,hxx,hx4,h1⟩:=HX.out.at_ hkn;have HXX:=ac hxx;clear hxx;have hv:=iZ (HX.out.2.1.take k);have hk2:k=0∨k=1:=om
   rcases hk2 with rfl|rfl
   .simp only[Addr.add,ai]at h1;go_wp2;refine⟨⟨1,om,rfl,?_⟩,by simp[intOf];omega⟩
    have hx1:xs.take 1=[x]:=by
     rw[mU (by rw[HX.out.1];omega)]
     have:=HXX.out;simp only[cF,aY (show 0<xs.length by rw[HX.out.1];omega),fI]at this
     simp[this]
    rw[hx1];have h5:=wT 0 x om om;simp only[Nat.zero_or]at h5;simpa [aZ]using h5
   .simp only[Addr.add,Tw,aP]at h1;go_wp2;refine⟨⟨2,om,rfl,?_⟩,by simp[intOf];omega⟩
    rw[dV xs 1 (by rw[HX.out.1];omega),HXX.out]
    simp only[gC]at hv;rw[yp (dr hv (by
     rw[HX.out.1,gY om];omega)) hx4,SM,ay x]
  .obtain rfl:k=n:=om
   go_wp2;go_ret;exact⟨by rw[bK (by rw[HX.out.1];exact ae _)];rfl,rfl⟩
def j9(v:Nat)(w:World)(hv:v<18446744073709551616) :
  Calls ah 135 #[.int .u64 v] w (pF w v):=by
 go_enter func135,ntmps135
 go_wp2_with fail
 have hl:mF [v%4294967296,v/4294967296]:=by
  intro x hx;simp only[rJ,bW,TA]at hx;rcases hx with rfl|rfl<;>omega
 have hb:fQ (w.alloc (Obj.cells #[dh IntKind.u32 ((v:Int)%4294967296),dh IntKind.u32 ((v:Int)/4294967296)] 136)) w.heap.size 136 (dC [v%4294967296,v/4294967296] 0):=by
  have:=fQ.new w 136 #[dh IntKind.u32 ((v:Int)%4294967296),dh IntKind.u32 ((v:Int)/4294967296)];simpa [dC]using this
 have hU:=cp.ofBlk hb hl hb.lt rfl;have HB:=ac ((a9 w.heap.size w).alloc (ae _) (Obj.cells #[dh IntKind.u32 ((v:Int)%4294967296),dh IntKind.u32 ((v:Int)/4294967296)] 136));clear hb;have HU:=ac hU;clear hU;refine(kw _ _ _ _ _ _ (ae _) sm HU.out).mono ?_
 rintro e w' ⟨⟨r,hr,rfl,hU2,hT,hv2⟩,rfl⟩;have HU2:=ac hU2;clear hU2;have HV2:=ac hv2;clear hv2;go_wp2;go_ret;exact⟨_,_,_,_,rfl,hr,HU2.out,hT,HV2.out.trans (by simp[aZ];omega),HB.out⟩

def Diff1(xs ys zs:List Nat)(k bo:Nat):Prop:=zs.length=k/\mF zs/\aZ zs+aZ (ys.take k)=aZ (xs.take k)+bo*4294967296^k
def AZ(x bo y:Nat)(a:x<4294967296)(b:bo<=1)(c:y<4294967296) :
  IntKind.u64.wrap (IntKind.u64.wrap ((x:Int)-bo)-y)=((x+18446744073709551616-bo-y)%18446744073709551616:Nat):=by
 rw[bX,bX];omega
def A8(x bo:Nat)(a:x<4294967296)(b:bo<=1) :
  IntKind.u64.wrap ((x:Int)-bo)=((x+18446744073709551616-bo-0)%18446744073709551616:Nat):=by
 rw[bX];omega
def Gw{t:Nat}:((t%18446744073709551616:Nat):Int)%4294967296=((t%4294967296:Nat):Int):=om
def CU{t:Nat}:((t%18446744073709551616:Nat):Int)/9223372036854775808=((t%18446744073709551616/9223372036854775808:Nat):Int):=om
def pe(A B:Option Addr)(n m c d L:Nat)(xs ys:List Nat)(w:World)(hmn:m<=n)(hn:n<=536870912)(hL:L<=w.heap.size)(hx:cp w L A n xs)(hy:cp w L B m ys)(hle:aZ ys<=aZ xs) :
  Calls ah 139 #[.slice A n c,.slice B m d] w (pF w (aZ xs-aZ ys)):=by
 have hmk:=CN n om;have HLE:=ac hle;clear hle;have HX:=ac hx;clear hx;have HY:=ac hy;clear hy
 go_enter func139,ntmps139
 go_wp2;clear hmk
 go_loopw [6,14] (fun cv iv wr=>∃(k bo:Nat) (zs:List Nat),k<=n/\iv=.int .i64 k/\cv=.int .u64 bo/\bo<=1/\Hid (iF w wr zs (n-k))/\Hid (Diff1 xs ys zs k bo)) (fun _ iv _=>n-(intOf iv).toNat)
 case atStart=>exact⟨0,0,[],om,rfl,rfl,om,ac (iF.start w n),ac ⟨rfl,by simp[mF],by simp[aZ]⟩⟩
 case round =>
  obtain⟨k,bo,zs,hk,rfl,rfl,hbo,HF,HS⟩:=hrel;by_cases hkn:k<n
  .obtain⟨ad,x,rfl,hab,hxx,hx4,h1⟩:=(HX.out.below HF.out.1 hL).at_ (k:=k) om;obtain⟨u,hu,hf⟩:=HF.out.old (k:=k) (by have:=HS.out.1;omega)
   have HXX:=ac hxx;clear hxx;have hkn':(k:Int)<n:=om
   have hk0:(0:Int)<=k:=om
   by_cases hkm:k<m
   .obtain⟨bd,y,rfl,hbb,hyy,hy4,h2⟩:=(HY.out.below HF.out.1 hL).at_ (k:=k) om;have HYY:=ac hyy;clear hyy;have hkm':(k:Int)<m:=om
    go_wp2
    go_roundw
    case rel =>
     obtain⟨s1,s2,s3⟩:=HS.out;obtain⟨z,b,hz,hb,z4,b1,hs⟩:=Ef s3 hbo hx4 hy4;refine⟨k+1,b,zs++[z],om,by go_num,?_,b1,ac ?_,ac ⟨by simp[s1],s2.snoc z4,?_⟩⟩
     .rw[AZ x bo y hx4 hbo hy4,CU,hb]
     .have h3:n-k=(n-(k+1))+1:=om
      have h4:=HF.out;rw[h3]at h4;rw[AZ x bo y hx4 hbo hy4,Gw,<-hz];exact h4.put k z s1.symm
     .rw[ic,s1,dV xs _ (by rw[HX.out.1];omega),dV ys _ (by rw[HY.out.1];omega),HXX.out,HYY.out,bQ]
      exact hs
    case measure=>simp[intOf];omega
   .go_wp2
    go_roundw
    case rel =>
     obtain⟨s1,s2,s3⟩:=HS.out;obtain⟨z,b,hz,hb,z4,b1,hs⟩:=Ef (y:=0) s3 hbo hx4 om;refine⟨k+1,b,zs++[z],om,by go_num,?_,b1,ac ?_,ac ⟨by simp[s1],s2.snoc z4,?_⟩⟩
     .rw[A8 x bo hx4 hbo,CU,hb]
     .have h3:n-k=(n-(k+1))+1:=om
      have h4:=HF.out;rw[h3]at h4;rw[A8 x bo hx4 hbo,Gw,<-hz];exact h4.put k z s1.symm
     .have hyt:∀r,m<=r->ys.take r=ys:=fun r hr=>bK (by rw[HY.out.1];exact hr)
      rw[hyt _ om]at hs ⊢;rw[ic,s1,dV _ _ (by rw[HX.out.1];omega),HXX.out,bQ]
      simpa using hs
    case measure=>simp[intOf];omega
  .obtain rfl:k=n:=om
   go_wp2_with fail
   obtain⟨s1,s2,s3⟩:=HS.out;have h5:=HF.out;rw[cb]at h5;have hU:=cp.ofBlk h5.2 s2 h5.2.lt rfl;rw[s1]at hU;have hv:aZ zs=aZ xs-aZ ys:=by
    rw[bK (l:=xs) (by rw[HX.out.1];exact ae _),bK (l:=ys) (by rw[HY.out.1];exact hmn)]at s3
    have h6:=HLE.out;have h7:=iZ s2;rw[s1]at h7;rcases aX bo with h0|h0
    .subst h0;omega
    .obtain rfl:bo=1:=om
     omega
   have HB:=ac h5.1;clear h5 HF HS s1 s2 s3;have HU:=ac hU;clear hU;have HV:=ac hv;clear hv;refine(kw _ _ _ _ _ _ (ae _) om HU.out).mono ?_;rintro e w' ⟨⟨r,hr,rfl,hU2,hT,hv2⟩,rfl⟩;have HU2:=ac hU2;clear hU2;have HV2:=ac hv2;clear hv2;go_wp2;go_ret;exact⟨_,_,_,_,rfl,hr,HU2.out,hT,HV2.out.trans HV.out,HB.out⟩

def er(w:World)(B:Nat)(v:Value)(z:Int):Prop :=
 ∃(neg:Bool) (A:Option Addr) (n c:Nat) (xs:List Nat),v=.agg #[.bool neg,.slice A n c]/\n<=c/\cp w B A n xs/\oo xs/\z=sg neg (aZ xs)
def er.below(h:er w B v z)(a:Below B' w w')(b:B<=B'):er w' B v z:=by
 obtain⟨neg,A,n,c,xs,d,e,f,g,i⟩:=h;exact⟨neg,A,n,c,xs,d,e,f.below a b,g,i⟩
def er.more(h:er w B v z)(a:B<=B'):er w B' v z:=by
 obtain⟨neg,A,n,c,xs,b,d,e,f,g⟩:=h;exact⟨neg,A,n,c,xs,b,d,e.more a,f,g⟩
def Gq:Value->Prop
 | .int _ _=>False
 | _=>True
def cp.put{cs:Array Value}(h:cp w B A n xs)(c:fQ w g t cs)(d:∀(j:Nat) (x:Value),cs[j]? = some x->Gq x) :
  cp (w.setCell ⟨g,i,none⟩ u) B A n xs :=
 ⟨h.1,h.2.1,fun f=>by
  obtain⟨ad,e,k,l⟩:=h.2.2 f;refine⟨ad,e,k,fun j m=>?_⟩;have a:=l j m;have b:ad.block≠g:=by
   intro o;have p:w.cell? (ad.add j)=(if (ad.add j).spot.isSome then none else cs[(ad.add j).off]?):=by
    unfold World.cell?;rw[mS,o,show w.heap[g]? = _ from c]
   rw[p]at a;split at a
   .cases a
   .exact d _ _ a
  rw[<-a];exact AD (NF w _ u _ (by rw[mS];exact b))⟩
def er.put{cs:Array Value}(h:er w B v z)(a:fQ w g t cs)(b:∀(j:Nat) (x:Value),cs[j]? = some x->Gq x) :
  er (w.setCell ⟨g,i,none⟩ u) B v z:=by
 obtain⟨neg,A,n,c,xs,d,e,f,k,l⟩:=h;exact⟨neg,A,n,c,xs,d,e,f.put a b,k,l⟩
def lW(a:Bool)(A:Option Addr)(n c:Nat):∀(j:Nat) (x:Value),(#[aq a,ao A n c]:Array Value)[j]? = some x->Gq x:=by
 intro j x h
 match j with
 | 0=>simp at h;subst h;trivial
 | 1=>simp at h;subst h;trivial
 | j+2=>simp at h
def er.result{neg a:Bool}(h:er w B (.agg #[.bool neg,.slice A n c]) z)(b:fQ w g 50 #[.bool a,.slice D k d]) :
  er ((w.setCell ⟨g,0,none⟩ (.bool neg)).setCell ⟨g,1,none⟩ (.slice A n c)) B (.agg #[.bool neg,.slice A n c]) z :=
 (h.put b (lW a D k d)).put (b.set_ 0 (.bool neg)) (by simpa using lW neg D k d)
def dD(w:World)(z:Int)(e:Ending)(w':World):Prop:=∃v,e=.returned v/\er w' w'.heap.size v z/\Below w.heap.size w w'
def dD.cell{w2:World}{neg a:Bool}{z':Int}(f:er w2 w2.heap.size (.agg #[.bool neg,.slice A n c]) z)(b:fQ w2 g 50 #[.bool a,.slice D k d])
  (h:Below w.heap.size w w2) (e:w.heap.size<=g) (i:z=z') :
  dD w z' (.returned (.agg #[.bool neg,.slice A n c])) ((w2.setCell ⟨g,0,none⟩ (.bool neg)).setCell ⟨g,1,none⟩ (.slice A n c)) :=
 ⟨_,rfl,by subst i;simpa using er.result f b,(h.setCell (by exact e) _).setCell (by exact e) _⟩
def vY(s:Bool)(a b:Nat):sg s (a+b)=sg s a+sg s b:=by cases s<;>simp[sg];omega
def uF{s1 s2:Bool}(h:s1≠s2){a b:Nat}(c:b<=a):sg s1 (a-b)=sg s1 a+sg s2 b:=by
 cases s1<;>cases s2<;>simp[sg]at*<;> omega
def Bo{s1 s2:Bool}(h:s1≠s2){a b:Nat}(c:a<=b):sg s2 (b-a)=sg s1 a+sg s2 b:=by
 cases s1<;>cases s2<;>simp[sg]at*<;> omega
def aI(h:cp w B A n xs)(a:oo xs):n=nl (aZ xs):=by rw[<-h.1];exact CR h.2.1 a
def gJ(neg:Bool)(A:Option Addr)(n c B:Nat)(xs:List Nat)(w:World)(hn:n<=c)(hm:n<=9223372036854775807)(hB:B<=w.heap.size)(h:cp w B A n xs)(ht:oo xs) :
  Calls ah 134 #[.bool neg,.slice A n c] w (dD w (sg neg (aZ xs))):=by
 have HX:=ac h;clear h;have HT:=ac ht;clear ht;by_cases h0:n=0
 .subst h0
  go_enter func134,ntmps134
  go_wp2;have hx0:xs=[]:=mB.1 HX.out.1;exact cw (v:=.agg #[.bool false,.slice none 0 0]) (by simp[results,results134,go_sem]) rfl
   ⟨_,rfl,⟨false,none,0,0,[],rfl,ae _,⟨rfl,by simp[mF],fun h=>absurd h om⟩,by intro x hx;simp at hx,by rw[hx0];simp[aZ,sg]⟩,(a9 _ _).alloc (ae _) _⟩
 .have h1:((n:Int)==0)=false:=by simp;omega
  go_enter func134,ntmps134
  go_wp2;have hb:=(a9 w.heap.size w).alloc (ae _) (Obj.cells #[aq neg,ao A n c] 50);exact cw (v:=.agg #[.bool neg,.slice A n c]) (by simp[results,results134,go_sem]) rfl
   ⟨_,rfl,⟨neg,A,n,c,xs,rfl,hn,(HX.out.below hb hB).more (by have:=hb.size;omega),HT.out,rfl⟩,hb⟩
def rG(s1 s2:Bool)(A B:Option Addr)(n m c d L:Nat)(xs ys:List Nat)(w:World)(hn:n<=536870912)(hm:m<=536870912)(hL:L<=w.heap.size)
  (hx:cp w L A n xs) (hy:cp w L B m ys) (tx:oo xs) (ty:oo ys) :
  Calls ah 194 #[.bool s1,.slice A n c,.bool s2,.slice B m d] w (dD w (sg s1 (aZ xs)+sg s2 (aZ ys))):=by
 have HX:=ac hx;clear hx;have HY:=ac hy;clear hy;have HTX:=ac tx;clear tx;have HTY:=ac ty;clear ty;by_cases hs:s1=s2
 .subst hs;have hb:(s1==s1)=true:=by simp
  go_enter Qw,M1
  go_wp2_with fail
  have hb0:=(a9 w.heap.size w).alloc (ae _) (Obj.cells #[aq false,ao none 0 0] 50);refine(zM A B n m c d L xs ys _ hn hm (by simp;omega) (HX.out.below hb0 hL) (HY.out.below hb0 hL)).mono ?_
  rintro e w1 ⟨A1,k,c1,zs,rfl,hk,hU,hT,hv,hb1⟩;have hk2:k<=536870913:=by
   rw[<-hU.1,CR hU.2.1 hT,hv];have h1:=LX (aZ xs) (aZ ys);rw[<-CR HX.out.2.1 HTX.out,<-CR HY.out.2.1 HTY.out,HX.out.1,HY.out.1]at h1;omega
  have HU:=ac hU;clear hU;have HV:=ac hv;clear hv;have HT:=ac hT;clear hT;have HB1:=ac hb1;clear hb1;have HB0:=ac hb0;clear hb0
  go_wp2_with fail
  refine(gJ s1 A1 k c1 w1.heap.size zs w1 hk om (ae _) HU.out HT.out).mono ?_;rintro e w2 ⟨v,rfl,hI,hb2⟩;obtain⟨neg,A2,n2,c2,zs2,rfl,hI2⟩:=hI;have hsz:w.heap.size+1<=w1.heap.size:=by have:=HB1.out.size;simpa using this
  have hblk:fQ w2 w.heap.size 50 #[.bool false,.slice none 0 0]:=((fQ.new w 50 _).below HB1.out sm).below hb2 om
  have hc0:=hblk.cell 0;have hc1:=hblk.cell 1;have hf0:=hblk.frozen 0;have hf1:=hblk.frozen 1;simp only[eY,cO,bV]at hc0 hc1;have HK:=ac hblk;clear hblk;have HI:=ac hI2;clear hI2;have HB2:=ac hb2;clear hb2;go_wp2;exact cw (v:=.agg #[.bool neg,.slice A2 n2 c2]) (by simp[results,Fr,go_sem,hc0,hc1]) rfl
   (dD.cell ⟨neg,A2,n2,c2,zs2,rfl,HI.out⟩ HK.out ((HB0.out.trans (HB1.out.mono sm)).trans (HB2.out.mono om)) (ae _) (by rw[HV.out,vY]))
 .have hb:(s1==s2)=false:=by simpa using hs
  rcases aA (aZ xs) (aZ ys)with hlt|hge
  .have hcm:=ln hlt
   go_enter Qw,M1
   go_wp2_with fail
   have hb0:=(a9 w.heap.size w).alloc (ae _) (Obj.cells #[aq false,ao none 0 0] 50);have hcall:=gR A B n m c d L xs ys (w.alloc (Obj.cells #[aq false,ao none 0 0] 50)) om om (HX.out.below hb0 hL) (HY.out.below hb0 hL) HTX.out HTY.out;rw[hcm]at hcall;refine hcall.mono ?_;clear hcall hcm;rintro e w1 ⟨rfl,q,rfl⟩;have HB0:=ac (hb0.trans ((dO.refl _).more q |>.below _));clear hb0
   go_wp2_with fail
   refine(pe B A m n d c L ys xs _ (by have h1:=aI HX.out HTX.out;have h2:=aI HY.out HTY.out;have h3:=fF (dw hlt);omega) om (by simp;omega) (HY.out.below HB0.out hL) (HX.out.below HB0.out hL) (dw hlt)).mono ?_
   rintro e w1 ⟨A1,k,c1,zs,rfl,hk,hU,hT,hv,hb1⟩;have hk2:k<=536870913:=by
    rw[aI hU hT,hv];have h1:=aI HX.out HTX.out;have h2:=aI HY.out HTY.out;have h3:nl (aZ xs-aZ ys)<=nl (aZ xs):=fF om;have h4:nl (aZ ys-aZ xs)<=nl (aZ ys):=fF om;omega
   have HU:=ac hU;clear hU;have HV:=ac hv;clear hv;have HT:=ac hT;clear hT;have HB1:=ac hb1;clear hb1
   go_wp2_with fail
   refine(gJ s2 A1 k c1 w1.heap.size zs w1 hk om (ae _) HU.out HT.out).mono ?_;rintro e w2 ⟨v,rfl,hI,hb2⟩;obtain⟨neg,A2,n2,c2,zs2,rfl,hI2⟩:=hI;have hsz:w.heap.size+1<=w1.heap.size:=by have:=HB1.out.size;simpa using this
   have hblk:fQ w2 w.heap.size 50 #[.bool false,.slice none 0 0]:=(fQ.below (w:=(w.alloc (Obj.cells #[aq false,ao none 0 0] 50)).drewN q) (fQ.new w 50 _) HB1.out sm).below hb2 om
   have hc0:=hblk.cell 0;have hc1:=hblk.cell 1;have hf0:=hblk.frozen 0;have hf1:=hblk.frozen 1;simp only[eY,cO,bV]at hc0 hc1;have HK:=ac hblk;clear hblk;have HI:=ac hI2;clear hI2;have HB2:=ac hb2;clear hb2;go_wp2;exact cw (v:=.agg #[.bool neg,.slice A2 n2 c2]) (by simp[results,Fr,go_sem,hc0,hc1]) rfl
    (dD.cell ⟨neg,A2,n2,c2,zs2,rfl,HI.out⟩ HK.out ((HB0.out.trans (HB1.out.mono sm)).trans (HB2.out.mono om)) (ae _) (by rw[HV.out,Bo hs (dw hlt)]))
  .rcases aA (aZ ys) (aZ xs)with hgt|hle
   .have hcm:=ka hgt
    go_enter Qw,M1
    go_wp2_with fail
    have hb0:=(a9 w.heap.size w).alloc (ae _) (Obj.cells #[aq false,ao none 0 0] 50);have hcall:=gR A B n m c d L xs ys (w.alloc (Obj.cells #[aq false,ao none 0 0] 50)) om om (HX.out.below hb0 hL) (HY.out.below hb0 hL) HTX.out HTY.out;rw[hcm]at hcall;refine hcall.mono ?_;clear hcall hcm;rintro e w1 ⟨rfl,q,rfl⟩;have HB0:=ac (hb0.trans ((dO.refl _).more q |>.below _));clear hb0
    go_wp2_with fail
    refine(pe A B n m c d L xs ys _ (by have h1:=aI HX.out HTX.out;have h2:=aI HY.out HTY.out;have h3:=fF (dw hgt);omega) om (by simp;omega) (HX.out.below HB0.out hL) (HY.out.below HB0.out hL) (dw hgt)).mono ?_
    rintro e w1 ⟨A1,k,c1,zs,rfl,hk,hU,hT,hv,hb1⟩;have hk2:k<=536870913:=by
     rw[aI hU hT,hv];have h1:=aI HX.out HTX.out;have h2:=aI HY.out HTY.out;have h3:nl (aZ xs-aZ ys)<=nl (aZ xs):=fF om;have h4:nl (aZ ys-aZ xs)<=nl (aZ ys):=fF om;omega
    have HU:=ac hU;clear hU;have HV:=ac hv;clear hv;have HT:=ac hT;clear hT;have HB1:=ac hb1;clear hb1
    go_wp2_with fail
    refine(gJ s1 A1 k c1 w1.heap.size zs w1 hk om (ae _) HU.out HT.out).mono ?_;rintro e w2 ⟨v,rfl,hI,hb2⟩;obtain⟨neg,A2,n2,c2,zs2,rfl,hI2⟩:=hI;have hsz:w.heap.size+1<=w1.heap.size:=by have:=HB1.out.size;simpa using this
    have hblk:fQ w2 w.heap.size 50 #[.bool false,.slice none 0 0]:=(fQ.below (w:=(w.alloc (Obj.cells #[aq false,ao none 0 0] 50)).drewN q) (fQ.new w 50 _) HB1.out sm).below hb2 om
    have hc0:=hblk.cell 0;have hc1:=hblk.cell 1;have hf0:=hblk.frozen 0;have hf1:=hblk.frozen 1;simp only[eY,cO,bV]at hc0 hc1;have HK:=ac hblk;clear hblk;have HI:=ac hI2;clear hI2;have HB2:=ac hb2;clear hb2;go_wp2;exact cw (v:=.agg #[.bool neg,.slice A2 n2 c2]) (by simp[results,Fr,go_sem,hc0,hc1]) rfl
     (dD.cell ⟨neg,A2,n2,c2,zs2,rfl,HI.out⟩ HK.out ((HB0.out.trans (HB1.out.mono sm)).trans (HB2.out.mono om)) (ae _) (by rw[HV.out,uF hs (dw hgt)]))
   .have heq:aZ xs=aZ ys:=I1 hle hge;have hcm:=lp heq
    go_enter Qw,M1
    go_wp2_with fail
    have hb0:=(a9 w.heap.size w).alloc (ae _) (Obj.cells #[aq false,ao none 0 0] 50);have hcall:=gR A B n m c d L xs ys (w.alloc (Obj.cells #[aq false,ao none 0 0] 50)) om om (HX.out.below hb0 hL) (HY.out.below hb0 hL) HTX.out HTY.out;rw[hcm]at hcall;refine hcall.mono ?_;clear hcall hcm;rintro e w1 ⟨rfl,q,rfl⟩;have HB0:=ac (hb0.trans ((dO.refl _).more q |>.below _));clear hb0
    go_wp2_with fail
    refine(pe A B n m c d L xs ys _ (by have h1:=aI HX.out HTX.out;have h2:=aI HY.out HTY.out;have h3:=fF (uf heq.symm);omega) om (by simp;omega) (HX.out.below HB0.out hL) (HY.out.below HB0.out hL) (uf heq.symm)).mono ?_
    rintro e w1 ⟨A1,k,c1,zs,rfl,hk,hU,hT,hv,hb1⟩;have hk2:k<=536870913:=by
     rw[aI hU hT,hv];have h1:=aI HX.out HTX.out;have h2:=aI HY.out HTY.out;have h3:nl (aZ xs-aZ ys)<=nl (aZ xs):=fF om;have h4:nl (aZ ys-aZ xs)<=nl (aZ ys):=fF om;omega
    have HU:=ac hU;clear hU;have HV:=ac hv;clear hv;have HT:=ac hT;clear hT;have HB1:=ac hb1;clear hb1
    go_wp2_with fail
    refine(gJ s1 A1 k c1 w1.heap.size zs w1 hk om (ae _) HU.out HT.out).mono ?_;rintro e w2 ⟨v,rfl,hI,hb2⟩;obtain⟨neg,A2,n2,c2,zs2,rfl,hI2⟩:=hI;have hsz:w.heap.size+1<=w1.heap.size:=by have:=HB1.out.size;simpa using this
    have hblk:fQ w2 w.heap.size 50 #[.bool false,.slice none 0 0]:=(fQ.below (w:=(w.alloc (Obj.cells #[aq false,ao none 0 0] 50)).drewN q) (fQ.new w 50 _) HB1.out sm).below hb2 om
    have hc0:=hblk.cell 0;have hc1:=hblk.cell 1;have hf0:=hblk.frozen 0;have hf1:=hblk.frozen 1;simp only[eY,cO,bV]at hc0 hc1;have HK:=ac hblk;clear hblk;have HI:=ac hI2;clear hI2;have HB2:=ac hb2;clear hb2;go_wp2;exact cw (v:=.agg #[.bool neg,.slice A2 n2 c2]) (by simp[results,Fr,go_sem,hc0,hc1]) rfl
     (dD.cell ⟨neg,A2,n2,c2,zs2,rfl,HI.out⟩ HK.out ((HB0.out.trans (HB1.out.mono sm)).trans (HB2.out.mono om)) (ae _) (by rw[HV.out,uF hs (uf heq.symm)]))

def gQ(A:Option Addr)(n c B:Nat)(xs:List Nat)(w:World)(b:n<=c)(d:n<=9223372036854775807)(h:cp w B A n xs)(f:oo xs) :
  Calls ah 136 #[.slice A n c] w fun e w'=>e=.returned (.slice A n c)/\w=w' :=
 (kw A n c B xs w b d h).mono fun e w' ⟨⟨k,p,g,i,j,l⟩,m⟩=>by
  have a:=aI i j;have o:=aI h f;rw[l,<-o]at a;subst a;exact⟨g,m⟩
def eM{a b:Value}(h:fQ w g 50 #[a,b]):w.cell? ⟨g,0,none⟩=some a/\w.cell? ⟨g,1,none⟩=some b:=by
 have c:=h.cell 0;have d:=h.cell 1;simpa using⟨c,d⟩
def PZ(va vb:Value)(za zb:Int)(B:Nat)(w:World)(hB:B<=w.heap.size)(ha:er w B va za)(hb:er w B vb zb)(sa:nl za.natAbs<=536870912)(sb:nl zb.natAbs<=536870912) :
  Calls ah 133 #[va,vb] w (dD w (za+zb)):=by
 obtain⟨s1,A,n,c,xs,rfl,hnc,hx,tx,rfl⟩:=ha;obtain⟨s2,D,m,d,ys,rfl,hmd,hy,ty,rfl⟩:=hb;rw[fK,<-aI hx tx]at sa;rw[fK,<-aI hy ty]at sb;have HX:=ac hx;clear hx;have HY:=ac hy;clear hy;have HTX:=ac tx;clear tx;have HTY:=ac ty;clear ty
 go_enter func133,ntmps133
 go_wp2;have hb0:=((((a9 w.heap.size w).alloc (ae _) (Obj.cells #[aq s1,ao A n c] 50)).alloc sm (Obj.cells #[aq s2,ao D m d] 50)).alloc (by simp;omega) (Obj.cells #[aq false,ao none 0 0] 50))
 have k1:fQ (((w.alloc (Obj.cells #[aq s1,ao A n c] 50)).alloc (Obj.cells #[aq s2,ao D m d] 50)).alloc (Obj.cells #[aq false,ao none 0 0] 50)) w.heap.size 50 #[aq s1,ao A n c] :=
  ((fQ.new w 50 _).below ((a9 _ _).alloc (ae _) _) sm).below ((a9 _ _).alloc (ae _) _) (by simp;omega)
 have k2:fQ (((w.alloc (Obj.cells #[aq s1,ao A n c] 50)).alloc (Obj.cells #[aq s2,ao D m d] 50)).alloc (Obj.cells #[aq false,ao none 0 0] 50)) (w.heap.size+1) 50 #[aq s2,ao D m d]:=by
  have h:=(fQ.new (w.alloc (Obj.cells #[aq s1,ao A n c] 50)) 50 #[aq s2,ao D m d]).below ((a9 _ _).alloc (ae _) (Obj.cells #[aq false,ao none 0 0] 50)) sm
  simpa using h
 have k3:fQ (((w.alloc (Obj.cells #[aq s1,ao A n c] 50)).alloc (Obj.cells #[aq s2,ao D m d] 50)).alloc (Obj.cells #[aq false,ao none 0 0] 50)) (w.heap.size+2) 50 #[aq false,ao none 0 0]:=by
  have h:=fQ.new ((w.alloc (Obj.cells #[aq s1,ao A n c] 50)).alloc (Obj.cells #[aq s2,ao D m d] 50)) 50 #[aq false,ao none 0 0];simpa using h
 generalize (((w.alloc (Obj.cells #[aq s1,ao A n c] 50)).alloc (Obj.cells #[aq s2,ao D m d] 50)).alloc (Obj.cells #[aq false,ao none 0 0] 50))=W at hb0 k1 k2 k3 ⊢;obtain⟨a0,a1⟩:=eM k1;obtain⟨b0,b1⟩:=eM k2;have HK1:=ac k1;clear k1;have HK2:=ac k2;clear k2;have HK3:=ac k3;clear k3;have HB0:=ac hb0;clear hb0;have hg2:w.heap.size+2<W.heap.size:=HK3.out.lt;have HS:=ac (show ∀w1,Below (w.heap.size+2) W w1->(w1.cell? ⟨w.heap.size,0,none⟩=some (.bool s1)/\w1.cell? ⟨w.heap.size,1,none⟩=some (.slice A n c)/\w1.cell? ⟨w.heap.size+1,0,none⟩=some (.bool s2)/\w1.cell? ⟨w.heap.size+1,1,none⟩=some (.slice D m d)/\Below (w.heap.size+2) W w1)from
  fun w1 h=>⟨(h.cell (by show w.heap.size<_;omega)).trans a0,(h.cell (by show w.heap.size<_;omega)).trans a1,(h.cell (by show w.heap.size+1<_;omega)).trans b0,(h.cell (by show w.heap.size+1<_;omega)).trans b1,h⟩)
 have HUX:Hid (cp W.drew B A n xs):=ac (HX.out.below HB0.out.drew hB);have HUY:Hid (cp W.drew B D m ys):=ac (HY.out.below HB0.out.drew hB)
 go_region_held3 (fun w'=>w'.cell? ⟨w.heap.size,0,none⟩=some (.bool s1)/\w'.cell? ⟨w.heap.size,1,none⟩=some (.slice A n c)/\w'.cell? ⟨w.heap.size+1,0,none⟩=some (.bool s2)/\w'.cell? ⟨w.heap.size+1,1,none⟩=some (.slice D m d)/\Below (w.heap.size+2) W w')
  (first|exact HS.out _ (a9 _ _).drew|assumption|exact HS.out _ (by assumption)|exact HS.out _ (ed (ed (by assumption) sm _) sm _))
  (first
   | (go_at_call_of 136 (ao A n c);refine(gQ A n c B xs W.drew hnc om HUX.out HTX.out).mono ?_;rintro e w' ⟨rfl,rfl⟩)
   | (go_at_call_of 136 (ao D m d);refine(gQ D m d B ys W.drew hmd om HUY.out HTY.out).mono ?_;rintro e w' ⟨rfl,rfl⟩)
   | (go_at_call 194;refine(rG s1 s2 A D n m c d B xs ys W.drew sa sb (by show B<=W.heap.size;omega) HUX.out HUY.out HTX.out HTY.out).mono ?_;rintro e w1 ⟨v,rfl,hI,hbn⟩;obtain⟨neg,A2,n2,c2,zs2,rfl,hI2⟩:=hI;have hB1:Below (w.heap.size+2) W w1:=(a9 _ W).drew.trans (hbn.mono (by show _<=W.heap.size;omega));have HI:=ac hI2;clear hI2;have hk3:=fQ.below (w:=W.drew) HK3.out hbn hg2;obtain⟨e0,e1⟩:=eM hk3;have f0:=hk3.frozen 0;have f1:=hk3.frozen 1;have HK4:=ac hk3;clear hk3 hbn))
 go_wp2;exact cw (v:=.agg #[.bool neg,.slice A2 n2 c2]) (by simp[results,results133,go_sem,e0,e1]) rfl
   (dD.cell ⟨neg,A2,n2,c2,zs2,rfl,HI.out⟩ HK4.out (HB0.out.trans (hB1.mono om)) om rfl)
def PH(va vb:Value)(za zb:Int)(B:Nat)(w:World)(hB:B<=w.heap.size)(ha:er w B va za)(hb:er w B vb zb)(sa:nl za.natAbs<=536870912)(sb:nl zb.natAbs<=536870912) :
  Calls ah 192 #[va,vb] w (dD w (za-zb)):=by
 obtain⟨s1,A,n,c,xs,rfl,hnc,hx,tx,rfl⟩:=ha;obtain⟨s2,D,m,d,ys,rfl,hmd,hy,ty,rfl⟩:=hb;rw[fK,<-aI hx tx]at sa;rw[fK,<-aI hy ty]at sb;have HX:=ac hx;clear hx;have HY:=ac hy;clear hy;have HTX:=ac tx;clear tx;have HTY:=ac ty;clear ty
 go_enter func192,ntmps192
 go_wp2;have hb0:=((((a9 w.heap.size w).alloc (ae _) (Obj.cells #[aq s1,ao A n c] 50)).alloc sm (Obj.cells #[aq s2,ao D m d] 50)).alloc (by simp;omega) (Obj.cells #[aq false,ao none 0 0] 50))
 have k1:fQ (((w.alloc (Obj.cells #[aq s1,ao A n c] 50)).alloc (Obj.cells #[aq s2,ao D m d] 50)).alloc (Obj.cells #[aq false,ao none 0 0] 50)) w.heap.size 50 #[aq s1,ao A n c] :=
  ((fQ.new w 50 _).below ((a9 _ _).alloc (ae _) _) sm).below ((a9 _ _).alloc (ae _) _) (by simp;omega)
 have k2:fQ (((w.alloc (Obj.cells #[aq s1,ao A n c] 50)).alloc (Obj.cells #[aq s2,ao D m d] 50)).alloc (Obj.cells #[aq false,ao none 0 0] 50)) (w.heap.size+1) 50 #[aq s2,ao D m d]:=by
  have h:=(fQ.new (w.alloc (Obj.cells #[aq s1,ao A n c] 50)) 50 #[aq s2,ao D m d]).below ((a9 _ _).alloc (ae _) (Obj.cells #[aq false,ao none 0 0] 50)) sm
  simpa using h
 have k3:fQ (((w.alloc (Obj.cells #[aq s1,ao A n c] 50)).alloc (Obj.cells #[aq s2,ao D m d] 50)).alloc (Obj.cells #[aq false,ao none 0 0] 50)) (w.heap.size+2) 50 #[aq false,ao none 0 0]:=by
  have h:=fQ.new ((w.alloc (Obj.cells #[aq s1,ao A n c] 50)).alloc (Obj.cells #[aq s2,ao D m d] 50)) 50 #[aq false,ao none 0 0];simpa using h
 generalize (((w.alloc (Obj.cells #[aq s1,ao A n c] 50)).alloc (Obj.cells #[aq s2,ao D m d] 50)).alloc (Obj.cells #[aq false,ao none 0 0] 50))=W at hb0 k1 k2 k3 ⊢;obtain⟨a0,a1⟩:=eM k1;obtain⟨b0,b1⟩:=eM k2;have HK1:=ac k1;clear k1;have HK2:=ac k2;clear k2;have HK3:=ac k3;clear k3;have HB0:=ac hb0;clear hb0;have hg2:w.heap.size+2<W.heap.size:=HK3.out.lt;have HS:=ac (show ∀w1,Below (w.heap.size+2) W w1->(w1.cell? ⟨w.heap.size,0,none⟩=some (.bool s1)/\w1.cell? ⟨w.heap.size,1,none⟩=some (.slice A n c)/\w1.cell? ⟨w.heap.size+1,0,none⟩=some (.bool s2)/\w1.cell? ⟨w.heap.size+1,1,none⟩=some (.slice D m d)/\Below (w.heap.size+2) W w1)from
  fun w1 h=>⟨(h.cell (by show w.heap.size<_;omega)).trans a0,(h.cell (by show w.heap.size<_;omega)).trans a1,(h.cell (by show w.heap.size+1<_;omega)).trans b0,(h.cell (by show w.heap.size+1<_;omega)).trans b1,h⟩)
 have HUX:Hid (cp W.drew B A n xs):=ac (HX.out.below HB0.out.drew hB);have HUY:Hid (cp W.drew B D m ys):=ac (HY.out.below HB0.out.drew hB)
 go_region_held3 (fun w'=>w'.cell? ⟨w.heap.size,0,none⟩=some (.bool s1)/\w'.cell? ⟨w.heap.size,1,none⟩=some (.slice A n c)/\w'.cell? ⟨w.heap.size+1,0,none⟩=some (.bool s2)/\w'.cell? ⟨w.heap.size+1,1,none⟩=some (.slice D m d)/\Below (w.heap.size+2) W w')
  (first|exact HS.out _ (a9 _ _).drew|assumption|exact HS.out _ (by assumption)|exact HS.out _ (ed (ed (by assumption) sm _) sm _))
  (first
   | (go_at_call_of 136 (ao A n c);refine(gQ A n c B xs W.drew hnc om HUX.out HTX.out).mono ?_;rintro e w' ⟨rfl,rfl⟩)
   | (go_at_call_of 136 (ao D m d);refine(gQ D m d B ys W.drew hmd om HUY.out HTY.out).mono ?_;rintro e w' ⟨rfl,rfl⟩)
   | (go_at_call 194;refine(rG s1 (!s2) A D n m c d B xs ys W.drew sa sb (by show B<=W.heap.size;omega) HUX.out HUY.out HTX.out HTY.out).mono ?_;rintro e w1 ⟨v,rfl,hI,hbn⟩;obtain⟨neg,A2,n2,c2,zs2,rfl,hI2⟩:=hI;have hB1:Below (w.heap.size+2) W w1:=(a9 _ W).drew.trans (hbn.mono (by show _<=W.heap.size;omega));have HI:=ac hI2;clear hI2;have hk3:=fQ.below (w:=W.drew) HK3.out hbn hg2;obtain⟨e0,e1⟩:=eM hk3;have f0:=hk3.frozen 0;have f1:=hk3.frozen 1;have HK4:=ac hk3;clear hk3 hbn))
 go_wp2;exact cw (v:=.agg #[.bool neg,.slice A2 n2 c2]) (by simp[results,results192,go_sem,e0,e1]) rfl
   (dD.cell ⟨neg,A2,n2,c2,zs2,rfl,HI.out⟩ HK4.out (HB0.out.trans (hB1.mono om)) om (by rw[Ga];omega))
def zX(va:Value)(za:Int)(B:Nat)(w:World)(hB:B<=w.heap.size)(ha:er w B va za)(sa:nl za.natAbs<=536870912) :
  Calls ah 191 #[va] w fun e w'=>e=.returned (.int .i64 za.sign)/\Below w.heap.size w w':=by
 obtain⟨s1,A,n,c,xs,rfl,hnc,hx,tx,rfl⟩:=ha;rw[fK,<-aI hx tx]at sa;have hb0:=(a9 w.heap.size w).alloc (ae _) (Obj.cells #[aq s1,ao A n c] 50);have HU:=ac (hx.below hb0 hB);have HL:=ac (aI hx tx);have HT:=ac tx;clear tx;have HX:=ac hx;clear hx;have HB:=ac hb0;clear hb0;by_cases h0:n=0
 .subst h0;have hv:aZ xs=0:=by rw[mB.1 HX.out.1]<;>rfl
  have hr:(sg s1 (aZ xs)).sign=0:=by rw[hv,sN]<;>rfl
  have HR:=ac hr;clear hr hv
  go_enter func191,TG
  go_wp2_with fail
  refine(gQ A 0 c B xs _ hnc om HU.out HT.out).mono ?_;rintro e w' ⟨rfl,rfl⟩;go_wp2;go_ret;exact⟨by rw[HR.out];rfl,HB.out⟩
 .have hv:0<aZ xs:=by
   rcases aX (aZ xs)with h|h
   .have:=HL.out;rw[h]at this;simp[nl]at this;omega
   .exact h
  have h1:((n:Int)==0)=false:=by simp;omega
  cases s1
  .have hr:(sg false (aZ xs)).sign=1:=by simp[sg];omega
   have HR:=ac hr;clear hr hv
   go_enter func191,TG
   go_wp2_with fail
   refine(gQ A n c B xs _ hnc om HU.out HT.out).mono ?_;rintro e w' ⟨rfl,rfl⟩;go_wp2;go_ret;exact⟨by rw[HR.out];rfl,HB.out⟩
  .have hr:(sg true (aZ xs)).sign=-1:=by simp[sg];omega
   have HR:=ac hr;clear hr hv
   go_enter func191,TG
   go_wp2_with fail
   refine(gQ A n c B xs _ hnc om HU.out HT.out).mono ?_;rintro e w' ⟨rfl,rfl⟩;go_wp2;go_ret;exact⟨by rw[HR.out];rfl,HB.out⟩
def Ks(z:Int)(w:World)(h1:-9223372036854775808<=z)(h2:z<=9223372036854775807):Calls ah 81 #[.int .i64 z] w (dD w z):=by
 have hb0:=(a9 w.heap.size w).alloc (ae _) (Obj.cells #[aq false,ao none 0 0] 50);have HB0:=ac hb0;clear hb0;by_cases hz:z<0
 .go_enter func81,ntmps81
  go_wp2_with fail
  rw[show IntKind.u64.wrap (-IntKind.u64.wrap z)=((z.natAbs:Nat):Int)from by rw[bX,bX];omega]
  refine(j9 z.natAbs _ om).mono ?_;rintro e w1 ⟨A1,k,c1,zs,rfl,hk,hU,hT,hv,hb1⟩;have hk2:k<=2:=by rw[aI hU hT,hv];exact jL.2 om
  have HU:=ac hU;clear hU;have HV:=ac hv;clear hv;have HT:=ac hT;clear hT;have HB1:=ac hb1;clear hb1
  go_wp2_with fail
  refine(gJ true A1 k c1 w1.heap.size zs w1 hk om (ae _) HU.out HT.out).mono ?_;rintro e w2 ⟨v,rfl,hI,hb2⟩;obtain⟨neg,A2,n2,c2,zs2,rfl,hI2⟩:=hI;have hsz:w.heap.size+1<=w1.heap.size:=by have:=HB1.out.size;simpa using this
  have hblk:fQ w2 w.heap.size 50 #[.bool false,.slice none 0 0]:=(fQ.below (w:=w.alloc (Obj.cells #[aq false,ao none 0 0] 50)) (fQ.new w 50 _) HB1.out sm).below hb2 om
  obtain⟨hc0,hc1⟩:=eM hblk;have hf0:=hblk.frozen 0;have hf1:=hblk.frozen 1;have HK:=ac hblk;clear hblk;have HI:=ac hI2;clear hI2;have HB2:=ac hb2;clear hb2;go_wp2;exact cw (v:=.agg #[.bool neg,.slice A2 n2 c2]) (by simp[results,results81,go_sem,hc0,hc1]) rfl
   (dD.cell ⟨neg,A2,n2,c2,zs2,rfl,HI.out⟩ HK.out ((HB0.out.trans (HB1.out.mono sm)).trans (HB2.out.mono om)) (ae _) (by rw[HV.out];simp[sg];omega))
 .go_enter func81,ntmps81
  go_wp2_with fail
  obtain⟨v0,rfl⟩:∃v0:Nat,z=(v0:Int):=⟨z.toNat,om⟩
  refine(j9 v0 _ om).mono ?_;rintro e w1 ⟨A1,k,c1,zs,rfl,hk,hU,hT,hv,hb1⟩;have hk2:k<=2:=by rw[aI hU hT,hv];exact jL.2 om
  have HU:=ac hU;clear hU;have HV:=ac hv;clear hv;have HT:=ac hT;clear hT;have HB1:=ac hb1;clear hb1
  go_wp2_with fail
  refine(gJ false A1 k c1 w1.heap.size zs w1 hk om (ae _) HU.out HT.out).mono ?_;rintro e w2 ⟨v,rfl,hI,hb2⟩;obtain⟨neg,A2,n2,c2,zs2,rfl,hI2⟩:=hI;have hsz:w.heap.size+1<=w1.heap.size:=by have:=HB1.out.size;simpa using this
  have hblk:fQ w2 w.heap.size 50 #[.bool false,.slice none 0 0]:=(fQ.below (w:=w.alloc (Obj.cells #[aq false,ao none 0 0] 50)) (fQ.new w 50 _) HB1.out sm).below hb2 om
  obtain⟨hc0,hc1⟩:=eM hblk;have hf0:=hblk.frozen 0;have hf1:=hblk.frozen 1;have HK:=ac hblk;clear hblk;have HI:=ac hI2;clear hI2;have HB2:=ac hb2;clear hb2;go_wp2;exact cw (v:=.agg #[.bool neg,.slice A2 n2 c2]) (by simp[results,results81,go_sem,hc0,hc1]) rfl
   (dD.cell ⟨neg,A2,n2,c2,zs2,rfl,HI.out⟩ HK.out ((HB0.out.trans (HB1.out.mono sm)).trans (HB2.out.mono om)) (ae _) (by rw[HV.out];simp[sg]))

end Go.Proofs.YtdobfmlmenaajaaGreatDoor
