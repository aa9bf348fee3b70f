/-
  Lemmas for NeighbourBack.
-/
import Derived.Test.YtdobfmlmenaajaaGreatDoorProg
import Derived.WalkKit
import Derived.WalkLawsBesides
import Derived.WalkSpells
import Derived.Below
import Derived.Lib.Hide
import Derived.Laws.MakeOwn
import Derived.Laws.OwnMore
import Derived.Laws.NewBlocks
import Derived.Laws.Rows
import Derived.Deep.Draws
import Derived.Deep.QuietTactic
import Derived.BigQuiet
import Derived.Outline
import Derived.KernelRfl
import Derived.Laws.BitsAllLaws
import Derived.Laws.BitsAll
import Derived.StillTailTactics
import Derived.Deep.RegionHeld3
import Derived.Deep.AppendLies
import Derived.Maps.AppendAt
import Derived.Lib.SliceRun
import Derived.Lib.BitFns
import Derived.Lib.Strings
import Derived.Lib.Slices
import Derived.Lib.Small
import Derived.Lib.Walk
import Derived.OwnWalk
namespace Go.Proofs.YtdobfmlmenaajaaGreatDoor
open Go.RowKit Tryz
open Lib renaming bitLen→jz
open _root_.List renaming replicate→cp,getD→df
open Tryz renaming prog→ak
open Value renaming slice→ao,bool→au,int→dx
set_option maxHeartbeats 6400000
set_option maxRecDepth 4096
set_option linter.all false
theorem an{a b:Prop}(h:b)(k:a:=by omega):a∧b:=⟨k,h⟩
theorem om{p:Prop}(h:p:=by omega):p:=h
theorem nn{a b:Nat}(h:a≠b):a≠b∧b≠a:=⟨h,Ne.symm h⟩
theorem kr{p:Prop}(h:p:=by kernel_rfl):p:=h
theorem sm{p:Prop}(h:p:=by simp):p:=h
theorem dc{p:Prop}(h:p:=by decide):p:=h
def aa:=@Nat.add_one_le_iff
def ab:=@Go.Lib.hid
def ag:=@Nat.le_refl
def ah:=@if_neg
def ai:=@Ne.symm
def aj:=@if_pos
def aq:=@Nat.mul_le_mul_right
def aA:=@Nat.mul_comm
def aB:=@Nat.lt_or_ge
def aG:=@List.all_eq_true
def aH:=@if_true
def aI:=@if_false
def aJ:=@Int.tmod_eq_emod_of_nonneg
def aM:=@Nat.zero_add
def aO:=@Nat.mul_le_mul_left
def aQ:=@Or.inr
def aR:=@bne_self_eq_false
def aS:=@Int.emod_lt_of_pos
def aT:=@Int.mul_le_mul_of_nonneg_left
def aU:=@List.forall_mem_cons
def aV:=@Int.natCast_mul
def aW:=@Int.emod_nonneg
def aX:=@Nat.mul_le_mul
def a6:=@Or.inl
def a8:=@Int.le_of_lt
def bD:=@Nat.eq_zero_or_pos
def bE:=@List.getElem?_eq_getElem
def bF:=@List.not_mem_nil
def bG:=@Go.RowKit.Below.refl
def bH:=@Nat.mul_assoc
def bJ:=@List.getD_cons_succ
def bK:=@Int.mul_le_mul_of_nonneg_right
def bL:=@List.getD_cons_zero
def bM:=@Go.run_underlying
def bQ:=@Nat.le_trans
def bR:=@Nat.sub_self
def bS:=@List.take_of_length_le
def bU:=@Int.mul_comm
def bV:=@Nat.mul_add
def bZ:=@Nat.pow_succ
def ca:=@false_implies
def cb:=@beq_self_eq_true
def ci:=@Go.IntKind.wrap_u64
def cj:=@Nat.succ_mul
def ck:=@Int.mul_le_mul
def cn:=@Int.mul_ediv_cancel_left
def co:=@Int.dvd_mul_of_dvd_right
def ct:=@List.size_toArray
def cu:=@Nat.pow_le_pow_right
def cw:=@Nat.lt_irrefl
def cA:=@implies_true
def cB:=@Nat.add_zero
def cC:=@Int.mul_nonneg
def cJ:=@Int.eq_of_mul_eq_mul_left
def cK:=@Classical.byContradiction
def cL:=@List.length_cons
def cM:=@Int.emod_eq_zero_of_dvd
def cO:=@Int.natCast_nonneg
def cP:=@Int.natAbs_mul
def cQ:=@Go.bodyPost_ret
def cR:=@Int.toNat_natCast
def cT:=@Array.getD_eq_getD_getElem?
def cU:=@Int.one_mul
def cV:=@Bool.and_eq_true
def cW:=@Nat.div_add_mod
def cX:=@Int.sign_eq_one_of_pos
def cY:=@Int.le_trans
def cZ:=@Nat.lt_of_lt_of_le
def c8:=@Nat.lt_trichotomy
def c9:=@Int.toNat_of_nonneg
def dd:=@List.getElem?_cons_succ
def di:=@Nat.mod_lt
def dj:=@Classical.choose_spec
def du:=@Nat.le_of_lt
def dv:=@Int.emod_eq_of_lt
def dw:=@Option.map_some
def dy:=@Array.getElem?_eq_getElem
def dz:=@Int.emod_add_mul_ediv
def dB:=@Bool.false_eq_true
def dD:=@Nat.sub_zero
def dE:=@List.getElem?_cons_zero
def dF:=@Int.dvd_of_emod_eq_zero
def dG:=@Nat.lt_of_le_of_lt
def dK:=@Nat.add_mul
def dM:=@Array.getElem?_setIfInBounds_ne
def dO:=@Nat.mul_zero
def dS:=@Option.bind_some
def dT:=@Nat.mod_eq_of_lt
def dX:=@List.getElem?_eq_none
def ee:=@Nat.div_eq_of_lt
def ef:=@Int.natCast_add
def eh:=@List.mem_cons_of_mem
def ei:=@List.flatMap_cons
def ej:=@Int.lt_trichotomy
def eo:=@Array.getElem?_eq_none
def ew:=@Go.RowKit.Below.setCell
def eB:=@Nat.add_sub_cancel
def eG:=@Nat.mul_succ
def eH:=@Int.pow_succ
def eI:=@Int.sign_eq_neg_one_of_neg
def eJ:=@Int.dvd_mul_of_dvd_left
def eL:=@Array.getElem?_append_left
def eX:=@List.getElem?_eq_some_iff
def eY:=@Option.map_eq_some_iff
def eZ:=@Int.mul_emod
def fu:=@Int.mul_assoc
def fz:=@List.getElem?_toArray
def fD:=@Nat.pow_add
def fE:=@List.mem_cons_self
def fF:=@List.getElem?_append_right
def fG:=@Int.tdiv_eq_ediv_of_nonneg
def fH:=@Int.natAbs_natCast
def fK:=@Int.mul_eq_zero
def fO:=@Go.Proofs.Tryz.underlying48
def fQ:=@List.getElem?_append_left
def fW:=@beq_eq_false_iff_ne
def fY:=@Option.some.injEq
def gF:=@Option.map_none
def gG:=@Nat.div_le_self
def gI:=@Nat.pos_of_ne_zero
def gJ:=@Array.ext'
def gM:=@List.mem_of_getElem?
def gN:=@List.length_take
def gO:=@Int.dvd_add
def ia:=@not_false_eq_true
def ib:=@List.mem_map
def ic:=@Array.size_append
def ir:=@Go.Result.andThen_ok
def it:=@Nat.min_eq_left
def iu:=@List.length_nil
def iw:=@Int.mul_one
def iA:=@Int.sign_eq_zero_iff_zero
def iB:=@Int.le_of_mul_le_mul_left
def iE:=@Option.getD_some
def iF:=@Array.getElem?_setIfInBounds_self_of_lt
def iJ:=@List.map_cons
def iK:=@List.eq_of_mem_replicate
def iL:=@Int.dvd_refl
def iM:=@Classical.em
def iO:=@Nat.pow_pos
def iP:=@Int.mul_ediv_cancel'
def jd:=@Nat.two_pow_pos
def jo:=@Int.lt_or_le
def jp:=@Int.dvd_zero
def jr:=@Int.toNat_zero
def jt:=@Array.getElem?_eq_some_iff
def jA:=@Int.natAbs_dvd_natAbs
def jB:=@Go.heap_alloc_new
def jD:=@Int.natAbs_ediv_le_natAbs
def jH:=@Nat.mul_add_div
def jJ:=@of_decide_eq_true
def jK:=@decide_eq_true_eq
def jL:=@Nat.pow_lt_pow_right
def jM:=@Nat.add_comm
def jN:=@Int.mul_pos
def jO:=@Int.emod_emod_of_dvd
def jV:=@Prod.mk.injEq
def jW:=@List.getElem?_take_of_lt
def jX:=@Int.le_of_dvd
def j9:=@Go.Sem.run_bind
def kc:=@List.replicate_succ
def kd:=@Int.natAbs_mul_self
def ke:=@true_and
def kE:=@Nat.shiftLeft_add_eq_or_of_lt
def kF:=@List.drop_of_length_le
def kG:=@Int.ofNat_le
def kH:=@Int.mul_zero
def kL:=@Nat.mul_add_mod
def kS:=@Nat.add_assoc
def lc:=@Array.getElem?_append
def li:=@List.getElem?_map
def lq:=@Nat.zero_le
def lr:=@Nat.mod_two_eq_zero_or_one
def lL:=@Int.zero_mul
def lM:=@Int.natCast_emod
def lN:=@Int.natCast_ediv
def lS:=@List.map_congr_left
def mC:=@Int.ediv_nonneg
def mE:=@Nat.lt_or_gt_of_ne
def mO:=@Nat.sub_sub
def mP:=@Nat.one_mul
def mQ:=@List.length_eq_zero_iff
def mT:=@Int.mul_sub
def mU:=@Int.mul_neg
def mV:=@Int.le_refl
def nE:=@decide_eq_true
def nF:=@congrArg
def nH:=@Go.Proofs.Tryz.underlying2
def nJ:=@Nat.zero_mul
def nK:=@List.take_succ_eq_append_getElem
def nL:=@Int.ofNat_tmod
def ot:=@Nat.le_of_ble_eq_true
def ou:=@Nat.div_lt_iff_lt_mul
def ow:=@List.length_replicate
def oA:=@Int.mul_ediv_add_emod
def oS:=@List.cons_append
def oT:=@Int.ediv_le_self
def ph:=@Int.sign_zero
def pi:=@Int.ofNat_sub
def pm:=@Int.ediv_emod_unique
def pU:=@Go.IntKind.wrap_i64
def pZ:=@decide_eq_false
def p9:=@Option.some.inj
def qd:=@List.mem_filter
def qe:=@Int.pow_ne_zero
def qf:=@Int.neg_mul_neg
def qh:=@Bool.or_eq_true
def qi:=@Go.wpList_append_own_at
def qQ:=@Nat.mul_lt_mul_of_pos_right
def qV:=@List.getElem?_take
def qW:=@Int.add_mul_emod_self_left
def qX:=@Bool.not_false
def qY:=@Array.ext_getElem?
def sv:=@List.drop_eq_getElem_cons
def sD:=@Nat.mul_one
def sF:=@Int.neg_mul
def sG:=@Int.add_mul
def sH:=@Bool.not_eq_true'
def tI:=@Nat.shiftLeft_eq
def tJ:=@Nat.le_mul_of_pos_right
def tK:=@Int.eq_ofNat_of_zero_le
def vV:=@beq_iff_eq
def vY:=@Nat.le_of_eq
def xg:=@Nat.not_lt_zero
def xn:=@List.nodup_cons
def xq:=@List.nil_append
def xu:=@Int.natCast_one
def ye:=@Go.Proofs.Tryz.underlying195
def yi:=@List.take_append_drop
def yj:=@Int.mul_tdiv_add_tmod
def yo:=@Go.u64_or_nat
def yC:=@Go.Code.wp_mono
def yL:=@ne_eq
def yW:=@Nat.mul_pos
def yX:=@List.mem_range
def yY:=@List.drop_zero
def yZ:=@Int.neg_neg
def zd:=@Int.mul_add
def ze:=@Int.dvd_sub
def AW:=@Go.Lib.run_eql_slice_nil
def Bh:=@And.intro
def Bi:=@Nat.pow_le_pow_left
def Bj:=@List.filterMap_cons
def BA:=@Go.World.cell?_of_block
def BG:=@Nat.le_of_dvd
def BH:=@List.mem_cons
def BO:=@Bool.not_true
def Cy:=@Go.Proofs.Tryz.underlying4
def CE:=@Nat.lt_of_le_of_ne
def CH:=@List.length_append
def CL:=@Int.mul_nonpos_of_nonpos_of_nonneg
def Dc:=@Go.run_firstCells_some
def Es:=@Go.Proofs.Tryz.ntmps84
def Eu:=@List.append_assoc
def Ew:=@Int.zero_sub
def Ex:=@Int.ediv_neg
def Ey:=@Array.all_eq_true_iff_forall_mem
def FQ:=@Go.Proofs.Tryz.results194
def Gi:=@Nat.lt_succ_self
def Gj:=@List.getElem_mem
def H8:=@Go.World.ownsRow_nil
def Ib:=@Go.Sem.run_pure
def Ig:=@List.getLast?_eq_some_getLast
def Ii:=@Int.pow_pos
def Jx:=@Go.Proofs.Tryz.func84
def Jy:=@Nat.le_antisymm
def Jz:=@List.mem_append
def JA:=@List.append_nil
def JC:=@Int.natCast_pow
def JD:=@Int.mul_ediv_mul_of_pos_left
def KY:=@Go.IntKind.wrap_u32
def La:=@Array.getElem?_append_right
def Li:=@Nat.lt_of_mul_lt_mul_right
def Lj:=@List.take_zero
def M8:=@Go.Proofs.Tryz.ntmps216
def M9:=@Go.Proofs.Tryz.ntmps194
def Na:=@Go.Proofs.Tryz.ntmps137
def Nj:=@Nat.le_of_mul_le_mul_left
def Nk:=@Nat.add_mul_mod_self_left
def NI:=@Int.mul_tdiv_cancel_left
def NJ:=@Int.lt_irrefl
def NK:=@Go.RowKit.Below.trod
def NL:=@Go.RowKit.Below.heap_setCell
def NM:=@Array.getElem?_replicate
def PR:=@List.getElem?_replicate
def PY:=@Go.DataW.trod_int
def Qt:=@Go.Proofs.Tryz.underlying50
def Qu:=@Go.Proofs.Tryz.func216
def Qv:=@Go.Proofs.Tryz.func194
def Qw:=@Go.Proofs.Tryz.func137
def QB:=@Nat.div_div_eq_div_mul
def QD:=@Int.zero_add
def QE:=@Int.ofNat_lt
def QH:=@Int.neg_tmod
def QI:=@Int.emod_neg
def QJ:=@Int.emod_def
def QK:=@Int.add_emod
def QL:=@Int.add_comm
def R3:=@List.singleton_append
def R4:=@List.countP_le_length
def Sc:=@Array.getElem?_modify
def SE:=@and_self
def SI:=@Nat.pow_one
def SJ:=@Nat.or_comm
def SK:=@Nat.mul_pow
def SL:=@Nat.add_mul_div_left
def SM:=@Int.pow_mul
def SN:=@Int.emod_lt
def SQ:=@Go.RowKit.Below.heap_alloc
def SR:=@List.take_succ_cons
def SS:=@Array.length_toList
def SU:=@Go.Proofs.Tryz.results121
def SV:=@Nat.mod_le
def SW:=@Nat.and_one_is_mod
def SX:=@List.mem_replicate
def SY:=@List.mem_filterMap
def SZ:=@Int.tmod_lt_of_pos
def Ta:=@Int.lt_or_eq_of_le
def Tb:=@Array.getElem?_map
def Tc:=@Go.grownCap_ge
def Td:=@dif_pos
def Te:=@Nat.mul_left_comm
def Tf:=@Int.mul_left_comm
def Tg:=@Go.run_callFunc_extern
def Th:=@false_iff
def Ti:=@and_false
def Tj:=@Go.Proofs.Tryz.results87
def Tk:=@Go.Proofs.Tryz.results82
def Tl:=@List.flatMap_nil
def Tn:=@Int.dvd_antisymm
def To:=@Go.u32_or_nat
def Tp:=@Nat.one_ne_zero
def Tq:=@Nat.le_add_left
def Tr:=@List.length_set
def Ts:=@List.cons.injEq
def Tt:=@Int.natAbs_tmod
def Tu:=@or_false
def Tv:=@and_true
def Tw:=@Go.World.ownsRow_lit
def Tx:=@Go.Proofs.Tryz.ntmps196
def Ty:=@Go.Proofs.Tryz.ntmps195
def Tz:=@Go.Proofs.Tryz.ntmps191
def TA:=@Go.Proofs.Tryz.ntmps189
def TB:=@Go.Proofs.Tryz.ntmps140
def TC:=@Go.Proofs.Tryz.ntmps121
def TD:=@List.mapM_cons
def TE:=@Int.ofNat_tdiv
def TG:=@Int.natAbs_neg
def TH:=@Go.DataW.trod_struct
def TI:=@Bool.and_false
variable{ad:Addr}{ops:Array Oper}{Q:Exit->Act->World->Prop}{z:Int}{P0 l ps xs ys zs:List Nat}{rest:List Oper}{B B' a b bo c car d g i j k m n p r vx vy vz x y:Nat}{o:Oper}{A D:Option Addr}{t:TypeId}{u v:Value}{w w' w2 wr:World}
def bC:List Nat->Nat
 | []=>0
 | x::l=>x+4294967296*bC l
def mX(l:List Nat):Prop:=∀x∈l,x<4294967296
def pg(l:List Nat):Prop:=∀x,l.getLast? = some x->x≠0
def zn(a b:List Nat):bC (a++b)=bC a+4294967296^a.length*bC b:=by
 induction a with
 | nil=>simp[bC]
 | cons x a ih=>simp only[oS,bC,ih,cL,bZ];rw[bV,kS,<-bH,aA (4294967296^a.length) 4294967296]
def iC(a:List Nat)(x:Nat):bC (a++[x])=bC a+4294967296^a.length*x:=by
 rw[zn];simp[bC]
def dZ(l:List Nat)(k:Nat)(h:k<l.length):bC (l.take (k+1))=bC (l.take k)+4294967296^k*l.getD k 0:=by
 rw[nK h,iC,gN,it (du h)];simp[df,bE h]
def mX.getD(h:mX l)(k:Nat):l.getD k 0<4294967296:=by
 rcases aB k l.length with a|a
 .simp only[df,bE a,iE];exact h _ (Gj a)
 .simp[df,dX a]
def mX.snoc(h:mX l){x:Nat}(b:x<4294967296):mX (l++[x]):=by
 intro y c;rcases Jz.1 c with a|a
 .exact h y a
 .rw[List.mem_singleton.1 a];exact b
def mX.take(h:mX l)(k:Nat):mX (l.take k):=fun x a=>h x (List.mem_of_mem_take a)
def ju(h:mX l):bC l<4294967296^l.length:=by
 induction l with
 | nil=>simp[bC]
 | cons x l ih =>
  have b:=ih (fun y a=>h y (eh _ a));have c:=h x (fE ..);simp only[bC,cL,bZ];generalize 4294967296^l.length=p at *;omega
def nj(k:Nat)(l:List Nat)(h:∀j,k<=j->l.getD j 0=0):bC l=bC (l.take k):=by
 induction l generalizing k with
 | nil=>simp
 | cons x l ih =>
  cases k with
  | zero =>
   have b:x=0:=by simpa [df]using h 0 (ag _)
   have a:=ih 0 (fun j _=>by have:=h (j+1) om;simpa [df]using this)
   simp only[Lj,bC]at a ⊢;omega
  | succ k =>
   have a:=ih k (fun j c=>by have:=h (j+1) om;simpa [df]using this)
   simp only[SR,bC];omega
def rH(h:vz+car*p=vx+vy) :
  vz+p*((car+(x+y))%4294967296)+(car+(x+y))/4294967296*(p*4294967296)=(vx+p*x)+(vy+p*y):=by
 have a:=cW (car+(x+y)) 4294967296;have:p*((car+(x+y))%4294967296)+(car+(x+y))/4294967296*(p*4294967296)=p*(car+(x+y)):=by
  calc
   p*((car+(x+y))%4294967296)+(car+(x+y))/4294967296*(p*4294967296)
   =p*(4294967296*((car+(x+y))/4294967296)+(car+(x+y))%4294967296):=by
     rw[bV];rw[jM];congr 1;rw[aA,bH]
   _=p*(car+(x+y)):=by rw[a]
 rw[kS,this,bV,bV,aA p car];omega
def wa(l:List Nat)(i:Nat)(h:i<l.length):bC l=bC (l.take i)+4294967296^i*(l.getD i 0+4294967296*bC (l.drop (i+1))):=by
 have a:l=l.take i++l[i]::l.drop (i+1):=by rw[List.getElem_cons_drop,yi]
 have b:bC l=bC (l.take i++l[i]::l.drop (i+1)):=by rw[<-a]
 rw[b,zn,gN,it (du h)];simp[bC,df,bE h]
def rU{a b:List Nat}(d:mX a)(c:i<a.length)(g:a.length=b.length)(e:a.drop (i+1)=b.drop (i+1))(h:a.getD i 0<b.getD i 0):bC a<bC b:=by
 rw[wa a i c,wa b i om,e];have f:=ju (d.take i);rw[gN,it (du c)]at f;generalize 4294967296^i=p at *;generalize bC (b.drop (i+1))=v at *;have j:p*(a.getD i 0+4294967296*v)+p<=p*(b.getD i 0+4294967296*v):=by
  rw[<-eG];exact aO _ om
 omega
def sV(h:pg l)(a:l≠[]):4294967296^(l.length-1)<=bC l:=by
 have b:=List.dropLast_concat_getLast a;have c:bC l=bC (l.dropLast++[l.getLast a]):=by rw[b]
 rw[c,iC,List.length_dropLast];have e:l.getLast a≠0:=h _ (by rw[Ig a])
 have d:1<=l.getLast a:=om
 calc
  4294967296^(l.length-1)=4294967296^(l.length-1)*1:=om
  _<=4294967296^(l.length-1)*l.getLast a:=aO _ d
  _<=_:=Tq _ _
def ql{a b:List Nat}(c:mX a)(d:pg b)(h:a.length<b.length):bC a<bC b:=by
 have f:=ju c;have g:=sV d (by intro e;subst e;simp at h)
 have i:(4294967296:Nat)^a.length<=4294967296^(b.length-1):=cu om om;omega
def lg(a b:Nat):Int:=if a<b then -1 else if b<a then 1 else 0
def lE(h:a<b):lg a b=-1:=by simp[lg,h]
def kD(h:b<a):lg a b=1:=by
 have c:¬a<b:=om
 simp[lg,h,c]
def lF(h:a=b):lg a b=0:=by simp[lg,h]
def EI(h:vz+vy=vx+bo*p)(g:bo<=1)(i:x<4294967296)(j:y<4294967296) :
  ∃z b,z=(x+18446744073709551616-bo-y)%4294967296/\b=(x+18446744073709551616-bo-y)%18446744073709551616/9223372036854775808/\z<4294967296/\b<=1 /\
   (vz+p*z)+(vy+p*y)=(vx+p*x)+b*(p*4294967296):=by
 refine⟨_,_,rfl,rfl,om,om,?_⟩
 rcases aB x (bo+y)with d|e
 .have a:(x+18446744073709551616-bo-y)%4294967296=x+4294967296-bo-y:=om
  have c:(x+18446744073709551616-bo-y)%18446744073709551616/9223372036854775808=1:=om
  rw[a,c];have f:p*(x+4294967296-bo-y)+p*y+p*bo=p*x+p*4294967296:=by
   rw[<-bV,<-bV,<-bV];congr 1;omega
  rw[aA bo p]at h;omega
 .have a:(x+18446744073709551616-bo-y)%4294967296=x-bo-y:=om
  have c:(x+18446744073709551616-bo-y)%18446744073709551616/9223372036854775808=0:=om
  rw[a,c];have f:p*(x-bo-y)+p*y+p*bo=p*x:=by
   rw[<-bV,<-bV];congr 1;omega
  rw[aA bo p]at h;omega
def nl(v:Nat):Nat:=if v=0 then 0 else v.log2/32+1
def zS(k:Nat):(4294967296:Nat)^k=2^(32*k):=by
 rw[show(4294967296:Nat)=2^32 from rfl,<-Nat.pow_mul]
def jR{v:Nat}:nl v<=k↔v<4294967296^k:=by
 unfold nl;split
 .subst_vars
  simp[iO]
 .rename_i a;rw[zS,<-Nat.log2_lt a];omega
def fM(h:a<=b):nl a<=nl b:=jR.2 (dG h (jR.1 (ag _)))
def LX(a b:Nat):nl (a+b)<=max (nl a) (nl b)+1:=by
 rw[jR,bZ];have c:a<4294967296^(max (nl a) (nl b)):=jR.1 om;have d:b<4294967296^(max (nl a) (nl b)):=jR.1 om;generalize 4294967296^(max (nl a) (nl b))=p at *;omega
def Ra(a b:Nat):nl (a*b)<=nl a+nl b:=by
 rw[jR,fD];exact Nat.mul_lt_mul'' (jR.1 (ag _)) (jR.1 (ag _))
def Dw(b:mX xs)(c:pg xs):xs.length=nl (bC xs):=by
 apply Jy
 .rcases bD xs.length with h|h
  .omega
  .have f:=sV c (by intro e;subst e;simp at h)
   rcases aB (nl (bC xs)) xs.length with a|a
   .have d:nl (bC xs)<=xs.length-1:=om
    have g:=jR.1 d;omega
   .exact a
 .exact jR.2 (ju b)
def sg(neg:Bool)(v:Nat):Int:=if neg then -(v:Int)else v
def fJ(neg:Bool)(v:Nat):(sg neg v).natAbs=v:=by cases neg<;>simp[sg]
def GA(neg:Bool)(v:Nat):sg (!neg) v=-sg neg v:=by cases neg<;>simp[sg]
def tU(neg:Bool):sg neg 0=0:=by cases neg<;>simp[sg]

def nG(a:Addr)(n:Nat):(a.add n).block=a.block:=by unfold Addr.add;split<;>rfl
def fX(w:World)(g:Nat)(t:TypeId)(cs:Array Value):Prop:=w.heap[g]? = some (.cells cs t (0,0))
section
variable {w w':World} {g:Nat} {t:TypeId} {cs:Array Value}
def fX.lt(h:fX w g t cs):g<w.heap.size:=by
 rcases aB g w.heap.size with a|b
 .exact a
 .unfold fX at h;rw[eo b]at h;cases h
def fX.cell(h:fX w g t cs)(i:Nat):w.cell? ⟨g,i,none⟩=cs[i]?:=cell_of_row w g i cs t (0,0) h
def fX.frozen(h:fX w g t cs)(i:Nat):w.frozen? ⟨g,i,none⟩=false:=by
 unfold fX at h;simp[World.frozen?,h]
def fX.new(w:World)(t:TypeId)(cs:Array Value):fX (w.alloc (.cells cs t)) w.heap.size t cs:=jB w _
def fX.set_(h:fX w g t cs)(i:Nat)(u:Value):fX (w.setCell ⟨g,i,none⟩ u) g t (cs.setIfInBounds i u):=by
 unfold fX at h ⊢;simp[World.setCell,Sc,h]
def fX.below(h:fX w g t cs)(a:Below B w w')(b:g<B):fX w' g t cs:=(a.block g b).trans h
end
def dW(w w':World):Prop:=∃n,w'=w.drewN n
def dW.refl(w:World):dW w w:=⟨0,rfl⟩
def dW.more(h:dW w w')(n:Nat):dW w (w'.drewN n):=by
 obtain⟨k,rfl⟩:=h;exact⟨k+n,by rw[World.drewN_drewN]⟩
def dW.below(h:dW w w')(B:Nat):Below B w w':=by
 obtain⟨k,rfl⟩:=h;exact⟨rfl,rfl,rfl,ag _,fun _ _=>rfl⟩
def dW.heap(h:dW w w'):w'.heap=w.heap:=by obtain⟨k,rfl⟩:=h;rfl
def dW.cell(h:dW w w')(a:Addr):w'.cell? a=w.cell? a:=by obtain⟨k,rfl⟩:=h;rfl
def cE(w:World)(B:Nat)(A:Option Addr)(n:Nat)(xs:List Nat):Prop :=
 xs.length=n/\mX xs/\(0<n->∃ad:Addr,A=some ad/\ad.block<B/\∀j,j<n->w.cell? (ad.add j)=some (.int .u32 (xs.getD j 0)))
def cE.below(h:cE w B A n xs)(a:Below B' w w')(g:B<=B'):cE w' B A n xs :=
 ⟨h.1,h.2.1,fun b=>by
  obtain⟨ad,e,c,d⟩:=h.2.2 b;exact⟨ad,e,c,fun j f=>(a.cell (by rw[nG];omega)).trans (d j f)⟩⟩
def cE.still(h:cE w B A n xs)(a:dW w w'):cE w' B A n xs :=
 h.below (a.below B) (ag _)
def cE.more(h:cE w B A n xs)(c:B<=B'):cE w B' A n xs :=
 ⟨h.1,h.2.1,fun a=>by
  obtain⟨ad,e,d,b⟩:=h.2.2 a;exact⟨ad,e,om,b⟩⟩
def cE.at_(h:cE w B A n xs){k:Nat}(a:k<n) :
  ∃(ad:Addr) (x:Nat),A=some ad/\ad.block<B/\xs.getD k 0=x/\x<4294967296/\w.cell? (ad.add k)=some (.int .u32 x):=by
 obtain⟨ad,e,b,c⟩:=h.2.2 om;exact⟨ad,_,e,b,rfl,h.2.1.getD k,c k a⟩
def cE.take(h:cE w B A n xs){k:Nat}(d:k<=n):cE w B A k (xs.take k) :=
 ⟨by rw[gN,h.1];omega,h.2.1.take k,fun f=>by
  obtain⟨ad,e,a,b⟩:=h.2.2 om;exact⟨ad,e,a,fun j c=>by rw[b j om];simp[df,c]⟩⟩
def dI(zs:List Nat)(r:Nat):Array Value:=((zs++cp r 0).map (fun x:Nat=>dx .u32 x)).toArray
def mh(zs:List Nat)(r k:Nat)(h:k<zs.length+r):(dI zs r)[k]? = some (.int .u32 ((zs++cp r 0).getD k 0)):=by
 have a:k<(zs++cp r 0).length:=by simpa using h
 simp only[dI,fz,li,bE a,dw,df,iE]
def Bp(zs:List Nat)(r x:Nat):(dI zs (r+1)).setIfInBounds zs.length (.int .u32 x)=dI (zs++[x]) r:=by
 simp[dI,kc]
def Br(r:Nat):dI [] r=Array.replicate r (.int .u32 0):=by simp[dI]
def cE.ofBlk(h:fX w g 136 (dI zs r))(a:mX zs){B:Nat}(b:g<B)(c:r=0):cE w B (some ⟨g,0,none⟩) zs.length zs :=
 ⟨rfl,a,fun _=>⟨_,rfl,b,fun j e=>by
  subst c;have d:(⟨g,0,none⟩:Addr).add j=⟨g,j,none⟩:=by unfold Addr.add;split<;>simp_all
  rw[d,h.cell,mh _ _ _ om];simp⟩⟩
def Dt(n:Nat)(b:n<=1073741824)(w:World) :
  (Instr.makeSlice 48 (.int .i64 n) (.int .i64 n)).run ak w=.ok (.slice (some ⟨w.heap.size,0,none⟩) n n) (w.alloc (.cells (dI [] n) 136)):=by
 have h:=run_make (P:=ak) w 48 136 Tryz.t136 (.int .u32 0) fO kr kr .i64 .i64 (n:Int) (n:Int) om om (by show(4:Int)*(n:Int)<=_;omega) om
 have a:Tryz.t136.size=1:=by kernel_rfl
 have e:madeCells (dx .u32 0).cells ((n:Int).toNat*Tryz.t136.size)=dI [] n:=by
  rw[a,sD,cR,Br];apply Array.ext
  .simp[madeCells]
  .intro i c d;simp[madeCells,Value.cells,Nat.mod_one]
 rw[e,cR]at h;exact h

def qH(w:World)(v:Nat)(e:Ending)(w':World):Prop :=
 ∃(A:Option Addr) (n c:Nat) (zs:List Nat),e=.returned (.slice A n c)/\n<=c/\cE w' w'.heap.size A n zs/\pg zs/\bC zs=v/\Below w.heap.size w w'
def tN(h:0<k->xs.getD (k-1) 0≠0)(d:k<=xs.length):pg (xs.take k):=by
 intro x a;rcases bD k with b|b
 .subst b;simp at a
 .have c:=h b;rw[List.getLast?_eq_getElem?,gN,it d,jW om]at a;simp only[df,a,iE]at c;exact c
def kM(A:Option Addr)(n c B:Nat)(xs:List Nat)(w:World)(hn:n<=c)(hm:n<=9223372036854775807)(h:cE w B A n xs) :
  Calls ak 136 #[.slice A n c] w fun e w'=>(∃k,k<=n/\e=.returned (.slice A k c)/\cE w B A k (xs.take k)/\pg (xs.take k)/\bC (xs.take k)=bC xs)/\w=w':=by
 have HH:=ab h;clear h
 go_enter func136,ntmps136
 go_wp2
 go_loop [0] (fun s=>∃k:Nat,k<=n/\s=.slice A k c/\Hid (∀j,k<=j->xs.getD j 0=0)) (fun s=>match s with|.slice _ k _=>k|_=>0)
 case atStart=>exact⟨n,ag _,rfl,ab (fun j hj=>by simp[df,dX (show xs.length<=j by rw[HH.out.1];exact hj)])⟩
 case round =>
  obtain⟨k,hk,rfl,hz⟩:=hrel;by_cases h0:k=0
  .subst h0;go_wp2;go_ret;exact⟨⟨0,om,rfl,HH.out.take om,tN (fun h=>absurd h om) om,(nj 0 xs hz.out).symm⟩,rfl⟩
  .obtain⟨m,rfl⟩:∃m,k=m+1:=⟨k-1,om⟩
   obtain⟨ad,x,rfl,_,hx',_,hx⟩:=HH.out.at_ (k:=m) om;have HX:=ab hx';clear hx';by_cases hx0:x=0
   .subst hx0;go_wp2;refine⟨⟨m,om,rfl,ab fun j hj=>?_⟩,sm⟩
    rcases aB m j with h|h
    .exact hz.out j h
    .obtain rfl:j=m:=om
     exact HX.out
   .have hb1:((x:Int)==0)=false:=by simp;omega
    go_wp2;go_ret;exact⟨⟨m+1,hk,rfl,HH.out.take hk,tN (fun _=>by rw[eB,HX.out];exact hx0) (by rw[HH.out.1];exact hk),(nj (m+1) xs hz.out).symm⟩,rfl⟩
def jb(w wr:World)(zs:List Nat)(r:Nat):Prop:=Below w.heap.size w wr/\fX wr w.heap.size 136 (dI zs r)
def jb.start(w:World)(r:Nat):jb w (w.alloc (.cells (dI [] r) 136)) [] r:=⟨(bG _ _).alloc (ag _) _,fX.new _ _ _⟩
def jb.drewN(h:jb w wr zs r)(q:Nat):jb w (wr.drewN q) zs r:=⟨⟨h.1.os,h.1.tape,h.1.output,h.1.size,h.1.block⟩,h.2⟩
def jb.put(h:jb w wr zs (r+1))(k x:Nat)(a:k=zs.length):jb w (wr.setCell ⟨w.heap.size,k,none⟩ (.int .u32 x)) (zs++[x]) r:=by
 subst a;refine⟨h.1.setCell (ag _) _,?_⟩;have:=h.2.set_ zs.length (.int .u32 x)
 rwa [Bp]at this
def jb.old(h:jb w wr zs r)(a:k<zs.length+r):∃u,wr.cell? ⟨w.heap.size,k,none⟩=some u/\wr.frozen? ⟨w.heap.size,k,none⟩=false :=
 ⟨_,(h.2.cell k).trans (mh zs r k a),h.2.frozen k⟩
def PD(xs ys zs:List Nat)(k car:Nat):Prop:=zs.length=k/\mX zs/\bC zs+car*4294967296^k=bC (xs.take k)+bC (ys.take k)
def KK(A B:Option Addr)(n m c d L:Nat)(xs ys:List Nat)(w:World)(hmn:m<=n)(hn:n<=536870912)(hL:L<=w.heap.size)(hx:cE w L A n xs)(hy:cE w L B m ys) :
  Calls ak 138 #[.slice A n c,.slice B m d] w (qH w (bC xs+bC ys)):=by
 have hmk:=Dt (n+1) om;rw[show((n+1:Nat):Int)=(n:Int)+1 from by omega]at hmk
 have hlt:¬(n<m):=om
 have HX:=ab hx;clear hx;have HY:=ab hy;clear hy
 go_enter func138,ntmps138
 go_wp2;clear hmk
 go_loopw [6,22] (fun cv iv wr=>∃(k car:Nat) (zs:List Nat),k<=m/\iv=.int .i64 k/\cv=.int .u64 car/\car<=1/\Hid (jb w wr zs (n+1-k))/\Hid (PD xs ys zs k car)) (fun _ iv _=>m-(intOf iv).toNat)
 case atStart=>exact⟨0,0,[],om,rfl,rfl,om,ab (jb.start w (n+1)),ab ⟨rfl,by simp[mX],by simp[bC]⟩⟩
 case round =>
  obtain⟨k,car,zs,hk,rfl,rfl,hcar,HF,HS⟩:=hrel;by_cases hkm:k<m
  .obtain⟨ad,x,rfl,hab,hxx,hx4,h1⟩:=(HX.out.below HF.out.1 hL).at_ (k:=k) om;obtain⟨bd,y,rfl,hbb,hyy,hy4,h2⟩:=(HY.out.below HF.out.1 hL).at_ (k:=k) om;obtain⟨u,hu,hf⟩:=HF.out.old (k:=k) (by have:=HS.out.1;omega)
   have HXX:=ab hxx;clear hxx;have HYY:=ab hyy;clear hyy;have hkn:(k:Int)<n:=om
   have hkm':(k:Int)<m:=om
   have hk0:(0:Int)<=k:=om
   go_wp2
   go_quiet (fail)
   go_wp2
   go_roundw
   case rel =>
    exact⟨k+1,(car+(x+y))/4294967296,zs++[(car+(x+y))%4294967296],om,by go_num,by go_num,om,
     ab (by
      have h3:n+1-k=(n+1-(k+1))+1:=om
      have h4:=HF.out;rw[h3]at h4;have h5:=(h4.drewN nq).put k ((car+(x+y))%4294967296) HS.out.1.symm;exact h5),
     ab (by
      obtain⟨s1,s2,s3⟩:=HS.out;refine⟨by simp[s1],s2.snoc om,?_⟩
      rw[iC,s1,dZ _ _ (by rw[HX.out.1];omega),dZ _ _ (by rw[HY.out.1];omega),HXX.out,HYY.out,bZ]
      exact rH s3)⟩
   case measure=>simp[intOf];omega
  .obtain rfl:k=m:=om
   go_wp2
   go_loopw [6,51] (fun cv iv wr=>∃(i car:Nat) (zs:List Nat),i<=n-k/\iv=.int .i64 i/\cv=.int .u64 car/\car<=1/\Hid (jb w wr zs (n+1-(k+i)))/\Hid (PD xs ys zs (k+i) car)) (fun _ iv _=>n-k-(intOf iv).toNat)
   case atStart=>exact⟨0,car,zs,om,rfl,rfl,hcar,HF,HS⟩
   case round =>
    clear HF HS hcar;obtain⟨i,car,zs,hi,rfl,rfl,hcar,HF,HS⟩:=hrel;by_cases hin:i<n-k
    .obtain⟨ad,x,rfl,hab,hxx,hx4,h1⟩:=(HX.out.below HF.out.1 hL).at_ (k:=k+i) om;obtain⟨u,hu,hf⟩:=HF.out.old (k:=k+i) (by have:=HS.out.1;omega)
     have HXX:=ab hxx;clear hxx;have hkn:(k:Int)+i<n:=om
     have hkn1:(k:Int)+i<n+1:=om
     have hk0:(0:Int)<=(k:Int)+i:=om
     have hti:((k:Int)+i).toNat=k+i:=om
     have hlt2:(i:Int)<(n:Int)-k:=om
     go_wp2
     go_roundw
     case rel =>
      exact⟨i+1,(car+x)/4294967296,zs++[(car+x)%4294967296],om,by go_num,by go_num,om,
       ab (by
        have h3:n+1-(k+i)=(n+1-(k+(i+1)))+1:=om
        have h4:=HF.out;rw[h3]at h4;have h5:=h4.put (k+i) ((car+x)%4294967296) HS.out.1.symm;exact h5),
       ab (by
        obtain⟨s1,s2,s3⟩:=HS.out;refine⟨by simp[s1];omega,s2.snoc om,?_⟩
        have hyt:∀r,k<=r->ys.take r=ys:=fun r hr=>bS (by rw[HY.out.1];exact hr)
        rw[hyt _ om]at s3 ⊢;rw[iC,s1,show k+(i+1)=k+i+1 from by omega,dZ _ _ (by rw[HX.out.1];omega),HXX.out,bZ]
        have:=rH (p:=4294967296^(k+i)) (x:=x) (y:=0) s3;simpa using this)⟩
     case measure=>simp[intOf];omega
    .obtain rfl:i=n-k:=om
     have hkn:k+(n-k)=n:=om
     obtain⟨u,hu,hf⟩:=HF.out.old (k:=n) (by have:=HS.out.1;omega)
     have hge:¬(((n-k:Nat):Int)<(n:Int)-k):=om
     go_wp2_with fail
     have h4:=HF.out;rw[show n+1-(k+(n-k))=0+1 from by omega]at h4
     have hl:zs.length=n:=by rw[HS.out.1,hkn]
     have h5:=h4.put n car hl.symm;have hlim:mX (zs++[car]):=HS.out.2.1.snoc om;have hU:=cE.ofBlk h5.2 hlim h5.2.lt rfl;rw[show(zs++[car]).length=n+1 from by simp[hl]]at hU
     have hB5:=h5.1;have hv:bC (zs++[car])=bC xs+bC ys:=by
      obtain⟨s1,s2,s3⟩:=HS.out;rw[iC,hl,aA];rw[hkn,bS (by rw[HX.out.1];exact ag _),bS (by rw[HY.out.1];exact hmn)]at s3
      exact s3
     clear h4 h5 HF HS hu hf;have HU:=ab hU;clear hU;have HV:=ab hv;clear hv;have HB:=ab hB5;clear hB5;refine(kM _ _ _ _ _ _ (ag _) om HU.out).mono ?_;rintro e w' ⟨⟨r,hr,rfl,hU2,hT,hv2⟩,rfl⟩;have HU2:=ab hU2;clear hU2;have HV2:=ab hv2;clear hv2;go_wp2;go_ret;exact⟨_,_,_,_,rfl,hr,HU2.out,hT,HV2.out.trans HV.out,HB.out⟩
def KJ(A B:Option Addr)(n m c d L:Nat)(xs ys:List Nat)(w:World)(hmn:m<n)(hn:n<=536870912)(hL:L<=w.heap.size)(hx:cE w L A n xs)(hy:cE w L B m ys) :
  Calls ak 138 #[.slice B m d,.slice A n c] w (qH w (bC ys+bC xs)):=by
 have hmk:=Dt (n+1) om;rw[show((n+1:Nat):Int)=(n:Int)+1 from by omega]at hmk
 have hlt:m<n:=hmn;have HX:=ab hx;clear hx;have HY:=ab hy;clear hy
 go_enter func138,ntmps138
 go_wp2;clear hmk
 go_loopw [6,22] (fun cv iv wr=>∃(k car:Nat) (zs:List Nat),k<=m/\iv=.int .i64 k/\cv=.int .u64 car/\car<=1/\Hid (jb w wr zs (n+1-k))/\Hid (PD xs ys zs k car)) (fun _ iv _=>m-(intOf iv).toNat)
 case atStart=>exact⟨0,0,[],om,rfl,rfl,om,ab (jb.start w (n+1)),ab ⟨rfl,by simp[mX],by simp[bC]⟩⟩
 case round =>
  obtain⟨k,car,zs,hk,rfl,rfl,hcar,HF,HS⟩:=hrel;by_cases hkm:k<m
  .obtain⟨ad,x,rfl,hab,hxx,hx4,h1⟩:=(HX.out.below HF.out.1 hL).at_ (k:=k) om;obtain⟨bd,y,rfl,hbb,hyy,hy4,h2⟩:=(HY.out.below HF.out.1 hL).at_ (k:=k) om;obtain⟨u,hu,hf⟩:=HF.out.old (k:=k) (by have:=HS.out.1;omega)
   have HXX:=ab hxx;clear hxx;have HYY:=ab hyy;clear hyy;have hkn:(k:Int)<n:=om
   have hkm':(k:Int)<m:=om
   have hk0:(0:Int)<=k:=om
   go_wp2
   go_quiet (fail)
   go_wp2
   go_roundw
   case rel =>
    exact⟨k+1,(car+(x+y))/4294967296,zs++[(car+(x+y))%4294967296],om,by go_num,by go_num,om,
     ab (by
      have h3:n+1-k=(n+1-(k+1))+1:=om
      have h4:=HF.out;rw[h3]at h4;have h5:=(h4.drewN nq).put k ((car+(x+y))%4294967296) HS.out.1.symm;exact h5),
     ab (by
      obtain⟨s1,s2,s3⟩:=HS.out;refine⟨by simp[s1],s2.snoc om,?_⟩
      rw[iC,s1,dZ _ _ (by rw[HX.out.1];omega),dZ _ _ (by rw[HY.out.1];omega),HXX.out,HYY.out,bZ]
      exact rH s3)⟩
   case measure=>simp[intOf];omega
  .obtain rfl:k=m:=om
   go_wp2
   go_loopw [6,51] (fun cv iv wr=>∃(i car:Nat) (zs:List Nat),i<=n-k/\iv=.int .i64 i/\cv=.int .u64 car/\car<=1/\Hid (jb w wr zs (n+1-(k+i)))/\Hid (PD xs ys zs (k+i) car)) (fun _ iv _=>n-k-(intOf iv).toNat)
   case atStart=>exact⟨0,car,zs,om,rfl,rfl,hcar,HF,HS⟩
   case round =>
    clear HF HS hcar;obtain⟨i,car,zs,hi,rfl,rfl,hcar,HF,HS⟩:=hrel;by_cases hin:i<n-k
    .obtain⟨ad,x,rfl,hab,hxx,hx4,h1⟩:=(HX.out.below HF.out.1 hL).at_ (k:=k+i) om;obtain⟨u,hu,hf⟩:=HF.out.old (k:=k+i) (by have:=HS.out.1;omega)
     have HXX:=ab hxx;clear hxx;have hkn:(k:Int)+i<n:=om
     have hkn1:(k:Int)+i<n+1:=om
     have hk0:(0:Int)<=(k:Int)+i:=om
     have hti:((k:Int)+i).toNat=k+i:=om
     have hlt2:(i:Int)<(n:Int)-k:=om
     go_wp2
     go_roundw
     case rel =>
      exact⟨i+1,(car+x)/4294967296,zs++[(car+x)%4294967296],om,by go_num,by go_num,om,
       ab (by
        have h3:n+1-(k+i)=(n+1-(k+(i+1)))+1:=om
        have h4:=HF.out;rw[h3]at h4;have h5:=h4.put (k+i) ((car+x)%4294967296) HS.out.1.symm;exact h5),
       ab (by
        obtain⟨s1,s2,s3⟩:=HS.out;refine⟨by simp[s1];omega,s2.snoc om,?_⟩
        have hyt:∀r,k<=r->ys.take r=ys:=fun r hr=>bS (by rw[HY.out.1];exact hr)
        rw[hyt _ om]at s3 ⊢;rw[iC,s1,show k+(i+1)=k+i+1 from by omega,dZ _ _ (by rw[HX.out.1];omega),HXX.out,bZ]
        have:=rH (p:=4294967296^(k+i)) (x:=x) (y:=0) s3;simpa using this)⟩
     case measure=>simp[intOf];omega
    .obtain rfl:i=n-k:=om
     have hkn:k+(n-k)=n:=om
     obtain⟨u,hu,hf⟩:=HF.out.old (k:=n) (by have:=HS.out.1;omega)
     have hge:¬(((n-k:Nat):Int)<(n:Int)-k):=om
     go_wp2_with fail
     have h4:=HF.out;rw[show n+1-(k+(n-k))=0+1 from by omega]at h4
     have hl:zs.length=n:=by rw[HS.out.1,hkn]
     have h5:=h4.put n car hl.symm;have hlim:mX (zs++[car]):=HS.out.2.1.snoc om;have hU:=cE.ofBlk h5.2 hlim h5.2.lt rfl;rw[show(zs++[car]).length=n+1 from by simp[hl]]at hU
     have hB5:=h5.1;have hv:bC (zs++[car])=bC xs+bC ys:=by
      obtain⟨s1,s2,s3⟩:=HS.out;rw[iC,hl,aA];rw[hkn,bS (by rw[HX.out.1];exact ag _),bS (by rw[HY.out.1];exact du hmn)]at s3
      exact s3
     clear h4 h5 HF HS hu hf;have HU:=ab hU;clear hU;have HV:=ab hv;clear hv;have HB:=ab hB5;clear hB5;refine(kM _ _ _ _ _ _ (ag _) om HU.out).mono ?_;rintro e w' ⟨⟨r,hr,rfl,hU2,hT,hv2⟩,rfl⟩;have HU2:=ab hU2;clear hU2;have HV2:=ab hv2;clear hv2;go_wp2;go_ret;exact⟨_,_,_,_,rfl,hr,HU2.out,hT,(HV2.out.trans HV.out).trans (jM _ _),HB.out⟩
def AI(A B:Option Addr)(n m c d L:Nat)(xs ys:List Nat)(w:World)(f:n<=536870912)(g:m<=536870912)(a:L<=w.heap.size)(b:cE w L A n xs)(e:cE w L B m ys) :
  Calls ak 138 #[.slice A n c,.slice B m d] w (qH w (bC xs+bC ys)):=by
 rcases aB n m with h|h
 .exact KJ B A m n d c L ys xs w h g a e b
 .exact KK A B n m c d L xs ys w h f a b e

def sf(h:i<xs.length):xs.drop i=xs.getD i 0::xs.drop (i+1):=by
 rw[sv h];simp[df,bE h]
def im(A B:Option Addr)(n m c d L:Nat)(xs ys:List Nat)(w:World)(hn:n<=9223372036854775807)(hm:m<=9223372036854775807)(hx:cE w L A n xs)(hy:cE w L B m ys)(tx:pg xs)(ty:pg ys) :
  Calls ak 195 #[.slice A n c,.slice B m d] w fun e w'=>e=.returned (.int .i64 (lg (bC xs) (bC ys)))/\dW w w':=by
 have HX:=ab hx;clear hx;have HY:=ab hy;clear hy;have TX:=ab tx;clear tx;have TY:=ab ty;clear ty;by_cases h1:n<m
 .have hr:=ab (lE (ql HX.out.2.1 TY.out (by rw[HX.out.1,HY.out.1];exact h1)))
  go_enter func195,Ty
  go_wp2;go_ret;exact⟨by rw[hr.out];rfl,dW.refl _⟩
 by_cases h2:m<n
 .have hr:=ab (kD (ql HY.out.2.1 TX.out (by rw[HX.out.1,HY.out.1];exact h2)))
  go_enter func195,Ty
  go_wp2;go_ret;exact⟨by rw[hr.out];rfl,dW.refl _⟩
 obtain rfl:n=m:=om
 go_enter func195,Ty
 go_wp2
 go_loopw [5] (fun iv wr=>∃(k:Nat),k<=n/\iv=.int .i64 ((k:Int)-1)/\Hid (dW w wr)/\Hid (xs.drop k=ys.drop k)) (fun iv _=>(intOf iv+1).toNat)
 case atStart=>exact⟨n,om,rfl,ab (dW.refl w),ab (by rw[kF (by rw[HX.out.1];omega),kF (by rw[HY.out.1];omega)])⟩
 case round =>
  obtain⟨k,hk,rfl,HQ,HD⟩:=hrel;by_cases h0:k=0
  .subst h0;have hr:=ab (lF (show bC xs=bC ys by have:=HD.out;simp only[yY]at this;rw[this]))
   go_wp2;go_ret;exact⟨by rw[hr.out];rfl,HQ.out⟩
  .obtain⟨i,rfl⟩:∃i,k=i+1:=⟨k-1,om⟩
   obtain⟨ad,x,rfl,_,hxx,hx4,h3⟩:=(HX.out.still HQ.out).at_ (k:=i) om;obtain⟨bd,y,rfl,_,hyy,hy4,h4⟩:=(HY.out.still HQ.out).at_ (k:=i) om;have HXX:=ab hxx;clear hxx;have HYY:=ab hyy;clear hyy;have e1:((i+1:Nat):Int)-1=(i:Int):=om
   rw[e1];clear e1;have hi0:(0:Int)<=i:=om
   have hin:(i:Int)<n:=om
   rcases c8 x y with hlt|heq|hgt
   .have hr:=ab (lE (rU HX.out.2.1 (i:=i) (by rw[HX.out.1];omega) (by rw[HX.out.1,HY.out.1]) HD.out (by rw[HXX.out,HYY.out];exact hlt)))
    go_wp2
    go_quiet (fail)
    go_wp2;go_ret;exact⟨by rw[hr.out];rfl,by repeat' (first|exact HQ.out|apply dW.more)⟩
   .subst heq;go_wp2
    go_quiet (fail)
    go_wp2
    go_quiet (fail)
    go_wp2
    go_roundw
    case rel=>exact⟨i,om,rfl,ab (by repeat' (first|exact HQ.out|apply dW.more)),ab (by rw[sf (by rw[HX.out.1];omega),sf (xs:=ys) (by rw[HY.out.1];omega),HXX.out,HYY.out,HD.out])⟩
    case measure=>simp[intOf]
   .have hr:=ab (kD (rU HY.out.2.1 (i:=i) (by rw[HY.out.1];omega) (by rw[HX.out.1,HY.out.1]) HD.out.symm (by rw[HXX.out,HYY.out];exact hgt)))
    go_wp2
    go_quiet (fail)
    go_wp2
    go_quiet (fail)
    go_wp2;go_ret;exact⟨by rw[hr.out];rfl,by repeat' (first|exact HQ.out|apply dW.more)⟩

def GO(c:a<4294967296):a ||| x*4294967296=a+x*4294967296:=by
 have h:=kE (i:=32) (b:=a) (by simpa using c) x
 rw[tI]at h;rw[SJ,<-h,jM]
def zq(b:a<4294967296)(c:x<4294967296):bits .or .u64 (a:Int) ((x:Int)*4294967296)=((a+x*4294967296:Nat):Int):=by
 have h:=yo a (x*4294967296) om om;rw[GO b]at h;rw[<-h];rfl
def mn(A:Option Addr)(n c L:Nat)(xs:List Nat)(w:World)(hn:n<=2)(hx:cE w L A n xs) :
  Calls ak 141 #[.slice A n c] w fun e w'=>e=.returned (.int .u64 (bC xs))/\w=w':=by
 have HX:=ab hx;clear hx
 go_enter func141,ntmps141
 go_wp2
 go_loop [3,8] (fun v i=>∃k:Nat,k<=n/\i=.int .i64 k/\v=.int .u64 (bC (xs.take k))) (fun _ i=>n-(intOf i).toNat)
 case atStart=>exact⟨0,lq _,rfl,by simp[bC]⟩
 case round =>
  obtain⟨k,hk,rfl,rfl⟩:=hrel;by_cases hkn:k<n
  .obtain⟨ad,x,rfl,_,hxx,hx4,h1⟩:=HX.out.at_ hkn;have HXX:=ab hxx;clear hxx;have hv:=ju (HX.out.2.1.take k);have hk2:k=0∨k=1:=om
   rcases hk2 with rfl|rfl
   .simp only[Addr.add,aj]at h1;go_wp2;refine⟨⟨1,om,rfl,?_⟩,by simp[intOf];omega⟩
    have hx1:xs.take 1=[x]:=by
     rw[nK (by rw[HX.out.1];omega)]
     have:=HXX.out;simp only[df,bE (show 0<xs.length by rw[HX.out.1];omega),iE]at this
     simp[this]
    rw[hx1];have h5:=yo 0 x om om;simp only[Nat.zero_or]at h5;simpa [bC]using h5
   .simp only[Addr.add,Tp,aI]at h1;go_wp2;refine⟨⟨2,om,rfl,?_⟩,by simp[intOf];omega⟩
    rw[dZ xs 1 (by rw[HX.out.1];omega),HXX.out]
    simp only[gN]at hv;rw[zq (cZ hv (by
     rw[HX.out.1,it om];omega)) hx4,SI,aA x]
  .obtain rfl:k=n:=om
   go_wp2;go_ret;exact⟨by rw[bS (by rw[HX.out.1];exact ag _)];rfl,rfl⟩
def kA(v:Nat)(w:World)(hv:v<18446744073709551616) :
  Calls ak 135 #[.int .u64 v] w (qH w v):=by
 go_enter func135,ntmps135
 go_wp2_with fail
 have hl:mX [v%4294967296,v/4294967296]:=by
  intro x hx;simp only[BH,bF,Tu]at hx;rcases hx with rfl|rfl<;>omega
 have hb:fX (w.alloc (Obj.cells #[dx IntKind.u32 ((v:Int)%4294967296),dx IntKind.u32 ((v:Int)/4294967296)] 136)) w.heap.size 136 (dI [v%4294967296,v/4294967296] 0):=by
  have:=fX.new w 136 #[dx IntKind.u32 ((v:Int)%4294967296),dx IntKind.u32 ((v:Int)/4294967296)];simpa [dI]using this
 have hU:=cE.ofBlk hb hl hb.lt rfl;have HB:=ab ((bG w.heap.size w).alloc (ag _) (Obj.cells #[dx IntKind.u32 ((v:Int)%4294967296),dx IntKind.u32 ((v:Int)/4294967296)] 136));clear hb;have HU:=ab hU;clear hU;refine(kM _ _ _ _ _ _ (ag _) sm HU.out).mono ?_
 rintro e w' ⟨⟨r,hr,rfl,hU2,hT,hv2⟩,rfl⟩;have HU2:=ab hU2;clear hU2;have HV2:=ab hv2;clear hv2;go_wp2;go_ret;exact⟨_,_,_,_,rfl,hr,HU2.out,hT,HV2.out.trans (by simp[bC];omega),HB.out⟩

def Diff1(xs ys zs:List Nat)(k bo:Nat):Prop:=zs.length=k/\mX zs/\bC zs+bC (ys.take k)=bC (xs.take k)+bo*4294967296^k
def BT(x bo y:Nat)(a:x<4294967296)(b:bo<=1)(c:y<4294967296) :
  IntKind.u64.wrap (IntKind.u64.wrap ((x:Int)-bo)-y)=((x+18446744073709551616-bo-y)%18446744073709551616:Nat):=by
 rw[ci,ci];omega
def BU(x bo:Nat)(a:x<4294967296)(b:bo<=1) :
  IntKind.u64.wrap ((x:Int)-bo)=((x+18446744073709551616-bo-0)%18446744073709551616:Nat):=by
 rw[ci];omega
def GX{t:Nat}:((t%18446744073709551616:Nat):Int)%4294967296=((t%4294967296:Nat):Int):=om
def DA{t:Nat}:((t%18446744073709551616:Nat):Int)/9223372036854775808=((t%18446744073709551616/9223372036854775808:Nat):Int):=om
def qo(A B:Option Addr)(n m c d L:Nat)(xs ys:List Nat)(w:World)(hmn:m<=n)(hn:n<=536870912)(hL:L<=w.heap.size)(hx:cE w L A n xs)(hy:cE w L B m ys)(hle:bC ys<=bC xs) :
  Calls ak 139 #[.slice A n c,.slice B m d] w (qH w (bC xs-bC ys)):=by
 have hmk:=Dt n om;have HLE:=ab hle;clear hle;have HX:=ab hx;clear hx;have HY:=ab hy;clear hy
 go_enter func139,ntmps139
 go_wp2;clear hmk
 go_loopw [6,14] (fun cv iv wr=>∃(k bo:Nat) (zs:List Nat),k<=n/\iv=.int .i64 k/\cv=.int .u64 bo/\bo<=1/\Hid (jb w wr zs (n-k))/\Hid (Diff1 xs ys zs k bo)) (fun _ iv _=>n-(intOf iv).toNat)
 case atStart=>exact⟨0,0,[],om,rfl,rfl,om,ab (jb.start w n),ab ⟨rfl,by simp[mX],by simp[bC]⟩⟩
 case round =>
  obtain⟨k,bo,zs,hk,rfl,rfl,hbo,HF,HS⟩:=hrel;by_cases hkn:k<n
  .obtain⟨ad,x,rfl,hab,hxx,hx4,h1⟩:=(HX.out.below HF.out.1 hL).at_ (k:=k) om;obtain⟨u,hu,hf⟩:=HF.out.old (k:=k) (by have:=HS.out.1;omega)
   have HXX:=ab hxx;clear hxx;have hkn':(k:Int)<n:=om
   have hk0:(0:Int)<=k:=om
   by_cases hkm:k<m
   .obtain⟨bd,y,rfl,hbb,hyy,hy4,h2⟩:=(HY.out.below HF.out.1 hL).at_ (k:=k) om;have HYY:=ab hyy;clear hyy;have hkm':(k:Int)<m:=om
    go_wp2
    go_roundw
    case rel =>
     obtain⟨s1,s2,s3⟩:=HS.out;obtain⟨z,b,hz,hb,z4,b1,hs⟩:=EI s3 hbo hx4 hy4;refine⟨k+1,b,zs++[z],om,by go_num,?_,b1,ab ?_,ab ⟨by simp[s1],s2.snoc z4,?_⟩⟩
     .rw[BT x bo y hx4 hbo hy4,DA,hb]
     .have h3:n-k=(n-(k+1))+1:=om
      have h4:=HF.out;rw[h3]at h4;rw[BT x bo y hx4 hbo hy4,GX,<-hz];exact h4.put k z s1.symm
     .rw[iC,s1,dZ xs _ (by rw[HX.out.1];omega),dZ ys _ (by rw[HY.out.1];omega),HXX.out,HYY.out,bZ]
      exact hs
    case measure=>simp[intOf];omega
   .go_wp2
    go_roundw
    case rel =>
     obtain⟨s1,s2,s3⟩:=HS.out;obtain⟨z,b,hz,hb,z4,b1,hs⟩:=EI (y:=0) s3 hbo hx4 om;refine⟨k+1,b,zs++[z],om,by go_num,?_,b1,ab ?_,ab ⟨by simp[s1],s2.snoc z4,?_⟩⟩
     .rw[BU x bo hx4 hbo,DA,hb]
     .have h3:n-k=(n-(k+1))+1:=om
      have h4:=HF.out;rw[h3]at h4;rw[BU x bo hx4 hbo,GX,<-hz];exact h4.put k z s1.symm
     .have hyt:∀r,m<=r->ys.take r=ys:=fun r hr=>bS (by rw[HY.out.1];exact hr)
      rw[hyt _ om]at hs ⊢;rw[iC,s1,dZ _ _ (by rw[HX.out.1];omega),HXX.out,bZ]
      simpa using hs
    case measure=>simp[intOf];omega
  .obtain rfl:k=n:=om
   go_wp2_with fail
   obtain⟨s1,s2,s3⟩:=HS.out;have h5:=HF.out;rw[bR]at h5;have hU:=cE.ofBlk h5.2 s2 h5.2.lt rfl;rw[s1]at hU;have hv:bC zs=bC xs-bC ys:=by
    rw[bS (l:=xs) (by rw[HX.out.1];exact ag _),bS (l:=ys) (by rw[HY.out.1];exact hmn)]at s3
    have h6:=HLE.out;have h7:=ju s2;rw[s1]at h7;rcases bD bo with h0|h0
    .subst h0;omega
    .obtain rfl:bo=1:=om
     omega
   have HB:=ab h5.1;clear h5 HF HS s1 s2 s3;have HU:=ab hU;clear hU;have HV:=ab hv;clear hv;refine(kM _ _ _ _ _ _ (ag _) om HU.out).mono ?_;rintro e w' ⟨⟨r,hr,rfl,hU2,hT,hv2⟩,rfl⟩;have HU2:=ab hU2;clear hU2;have HV2:=ab hv2;clear hv2;go_wp2;go_ret;exact⟨_,_,_,_,rfl,hr,HU2.out,hT,HV2.out.trans HV.out,HB.out⟩

def eC(w:World)(B:Nat)(v:Value)(z:Int):Prop :=
 ∃(neg:Bool) (A:Option Addr) (n c:Nat) (xs:List Nat),v=.agg #[.bool neg,.slice A n c]/\n<=c/\cE w B A n xs/\pg xs/\z=sg neg (bC xs)
def eC.below(h:eC w B v z)(a:Below B' w w')(b:B<=B'):eC w' B v z:=by
 obtain⟨neg,A,n,c,xs,d,e,f,g,i⟩:=h;exact⟨neg,A,n,c,xs,d,e,f.below a b,g,i⟩
def eC.more(h:eC w B v z)(a:B<=B'):eC w B' v z:=by
 obtain⟨neg,A,n,c,xs,b,d,e,f,g⟩:=h;exact⟨neg,A,n,c,xs,b,d,e.more a,f,g⟩
def GQ:Value->Prop
 | .int _ _=>False
 | _=>True
def cE.put{cs:Array Value}(h:cE w B A n xs)(c:fX w g t cs)(d:∀(j:Nat) (x:Value),cs[j]? = some x->GQ x) :
  cE (w.setCell ⟨g,i,none⟩ u) B A n xs :=
 ⟨h.1,h.2.1,fun f=>by
  obtain⟨ad,e,k,l⟩:=h.2.2 f;refine⟨ad,e,k,fun j m=>?_⟩;have a:=l j m;have b:ad.block≠g:=by
   intro o;have p:w.cell? (ad.add j)=(if (ad.add j).spot.isSome then none else cs[(ad.add j).off]?):=by
    unfold World.cell?;rw[nG,o,show w.heap[g]? = _ from c]
   rw[p]at a;split at a
   .cases a
   .exact d _ _ a
  rw[<-a];exact BA (NL w _ u _ (by rw[nG];exact b))⟩
def eC.put{cs:Array Value}(h:eC w B v z)(a:fX w g t cs)(b:∀(j:Nat) (x:Value),cs[j]? = some x->GQ x) :
  eC (w.setCell ⟨g,i,none⟩ u) B v z:=by
 obtain⟨neg,A,n,c,xs,d,e,f,k,l⟩:=h;exact⟨neg,A,n,c,xs,d,e,f.put a b,k,l⟩
def md(a:Bool)(A:Option Addr)(n c:Nat):∀(j:Nat) (x:Value),(#[au a,ao A n c]:Array Value)[j]? = some x->GQ x:=by
 intro j x h
 match j with
 | 0=>simp at h;subst h;trivial
 | 1=>simp at h;subst h;trivial
 | j+2=>simp at h
def eC.result{neg a:Bool}(h:eC w B (.agg #[.bool neg,.slice A n c]) z)(b:fX w g 50 #[.bool a,.slice D k d]) :
  eC ((w.setCell ⟨g,0,none⟩ (.bool neg)).setCell ⟨g,1,none⟩ (.slice A n c)) B (.agg #[.bool neg,.slice A n c]) z :=
 (h.put b (md a D k d)).put (b.set_ 0 (.bool neg)) (by simpa using md neg D k d)
def dJ(w:World)(z:Int)(e:Ending)(w':World):Prop:=∃v,e=.returned v/\eC w' w'.heap.size v z/\Below w.heap.size w w'
def dJ.cell{neg a:Bool}{z':Int}(f:eC w2 w2.heap.size (.agg #[.bool neg,.slice A n c]) z)(b:fX w2 g 50 #[.bool a,.slice D k d])
  (h:Below w.heap.size w w2) (e:w.heap.size<=g) (i:z=z') :
  dJ w z' (.returned (.agg #[.bool neg,.slice A n c])) ((w2.setCell ⟨g,0,none⟩ (.bool neg)).setCell ⟨g,1,none⟩ (.slice A n c)) :=
 ⟨_,rfl,by subst i;simpa using eC.result f b,(h.setCell (by exact e) _).setCell (by exact e) _⟩
def xK(s:Bool)(a b:Nat):sg s (a+b)=sg s a+sg s b:=by cases s<;>simp[sg];omega
def wv{s1 s2:Bool}(h:s1≠s2){a b:Nat}(c:b<=a):sg s1 (a-b)=sg s1 a+sg s2 b:=by
 cases s1<;>cases s2<;>simp[sg]at*<;> omega
def B7{s1 s2:Bool}(h:s1≠s2){a b:Nat}(c:a<=b):sg s2 (b-a)=sg s1 a+sg s2 b:=by
 cases s1<;>cases s2<;>simp[sg]at*<;> omega
def aD(h:cE w B A n xs)(a:pg xs):n=nl (bC xs):=by rw[<-h.1];exact Dw h.2.1 a
def gW(neg:Bool)(A:Option Addr)(n c B:Nat)(xs:List Nat)(w:World)(hn:n<=c)(hm:n<=9223372036854775807)(hB:B<=w.heap.size)(h:cE w B A n xs)(ht:pg xs) :
  Calls ak 134 #[.bool neg,.slice A n c] w (dJ w (sg neg (bC xs))):=by
 have HX:=ab h;clear h;have HT:=ab ht;clear ht;by_cases h0:n=0
 .subst h0
  go_enter func134,ntmps134
  go_wp2;have hx0:xs=[]:=mQ.1 HX.out.1;exact cQ (v:=.agg #[.bool false,.slice none 0 0]) (by simp[results,results134,go_sem]) rfl
   ⟨_,rfl,⟨false,none,0,0,[],rfl,ag _,⟨rfl,by simp[mX],fun h=>absurd h om⟩,by intro x hx;simp at hx,by rw[hx0];simp[bC,sg]⟩,(bG _ _).alloc (ag _) _⟩
 .have h1:((n:Int)==0)=false:=by simp;omega
  go_enter func134,ntmps134
  go_wp2;have hb:=(bG w.heap.size w).alloc (ag _) (Obj.cells #[au neg,ao A n c] 50);exact cQ (v:=.agg #[.bool neg,.slice A n c]) (by simp[results,results134,go_sem]) rfl
   ⟨_,rfl,⟨neg,A,n,c,xs,rfl,hn,(HX.out.below hb hB).more (by have:=hb.size;omega),HT.out,rfl⟩,hb⟩
def sS(s1 s2:Bool)(A B:Option Addr)(n m c d L:Nat)(xs ys:List Nat)(w:World)(hn:n<=536870912)(hm:m<=536870912)(hL:L<=w.heap.size)
  (hx:cE w L A n xs) (hy:cE w L B m ys) (tx:pg xs) (ty:pg ys) :
  Calls ak 194 #[.bool s1,.slice A n c,.bool s2,.slice B m d] w (dJ w (sg s1 (bC xs)+sg s2 (bC ys))):=by
 have HX:=ab hx;clear hx;have HY:=ab hy;clear hy;have HTX:=ab tx;clear tx;have HTY:=ab ty;clear ty;by_cases hs:s1=s2
 .subst hs;have hb:(s1==s1)=true:=by simp
  go_enter Qv,M9
  go_wp2_with fail
  have hb0:=(bG w.heap.size w).alloc (ag _) (Obj.cells #[au false,ao none 0 0] 50);refine(AI A B n m c d L xs ys _ hn hm (by simp;omega) (HX.out.below hb0 hL) (HY.out.below hb0 hL)).mono ?_
  rintro e w1 ⟨A1,k,c1,zs,rfl,hk,hU,hT,hv,hb1⟩;have hk2:k<=536870913:=by
   rw[<-hU.1,Dw hU.2.1 hT,hv];have h1:=LX (bC xs) (bC ys);rw[<-Dw HX.out.2.1 HTX.out,<-Dw HY.out.2.1 HTY.out,HX.out.1,HY.out.1]at h1;omega
  have HU:=ab hU;clear hU;have HV:=ab hv;clear hv;have HT:=ab hT;clear hT;have HB1:=ab hb1;clear hb1;have HB0:=ab hb0;clear hb0
  go_wp2_with fail
  refine(gW s1 A1 k c1 w1.heap.size zs w1 hk om (ag _) HU.out HT.out).mono ?_;rintro e w2 ⟨v,rfl,hI,hb2⟩;obtain⟨neg,A2,n2,c2,zs2,rfl,hI2⟩:=hI;have hsz:w.heap.size+1<=w1.heap.size:=by have:=HB1.out.size;simpa using this
  have hblk:fX w2 w.heap.size 50 #[.bool false,.slice none 0 0]:=((fX.new w 50 _).below HB1.out sm).below hb2 om
  have hc0:=hblk.cell 0;have hc1:=hblk.cell 1;have hf0:=hblk.frozen 0;have hf1:=hblk.frozen 1;simp only[fz,dE,dd]at hc0 hc1;have HK:=ab hblk;clear hblk;have HI:=ab hI2;clear hI2;have HB2:=ab hb2;clear hb2;go_wp2;exact cQ (v:=.agg #[.bool neg,.slice A2 n2 c2]) (by simp[results,FQ,go_sem,hc0,hc1]) rfl
   (dJ.cell ⟨neg,A2,n2,c2,zs2,rfl,HI.out⟩ HK.out ((HB0.out.trans (HB1.out.mono sm)).trans (HB2.out.mono om)) (ag _) (by rw[HV.out,xK]))
 .have hb:(s1==s2)=false:=by simpa using hs
  rcases aB (bC xs) (bC ys)with hlt|hge
  .have hcm:=lE hlt
   go_enter Qv,M9
   go_wp2_with fail
   have hb0:=(bG w.heap.size w).alloc (ag _) (Obj.cells #[au false,ao none 0 0] 50);have hcall:=im A B n m c d L xs ys (w.alloc (Obj.cells #[au false,ao none 0 0] 50)) om om (HX.out.below hb0 hL) (HY.out.below hb0 hL) HTX.out HTY.out;rw[hcm]at hcall;refine hcall.mono ?_;clear hcall hcm;rintro e w1 ⟨rfl,q,rfl⟩;have HB0:=ab (hb0.trans ((dW.refl _).more q |>.below _));clear hb0
   go_wp2_with fail
   refine(qo B A m n d c L ys xs _ (by have h1:=aD HX.out HTX.out;have h2:=aD HY.out HTY.out;have h3:=fM (du hlt);omega) om (by simp;omega) (HY.out.below HB0.out hL) (HX.out.below HB0.out hL) (du hlt)).mono ?_
   rintro e w1 ⟨A1,k,c1,zs,rfl,hk,hU,hT,hv,hb1⟩;have hk2:k<=536870913:=by
    rw[aD hU hT,hv];have h1:=aD HX.out HTX.out;have h2:=aD HY.out HTY.out;have h3:nl (bC xs-bC ys)<=nl (bC xs):=fM om;have h4:nl (bC ys-bC xs)<=nl (bC ys):=fM om;omega
   have HU:=ab hU;clear hU;have HV:=ab hv;clear hv;have HT:=ab hT;clear hT;have HB1:=ab hb1;clear hb1
   go_wp2_with fail
   refine(gW s2 A1 k c1 w1.heap.size zs w1 hk om (ag _) HU.out HT.out).mono ?_;rintro e w2 ⟨v,rfl,hI,hb2⟩;obtain⟨neg,A2,n2,c2,zs2,rfl,hI2⟩:=hI;have hsz:w.heap.size+1<=w1.heap.size:=by have:=HB1.out.size;simpa using this
   have hblk:fX w2 w.heap.size 50 #[.bool false,.slice none 0 0]:=(fX.below (w:=(w.alloc (Obj.cells #[au false,ao none 0 0] 50)).drewN q) (fX.new w 50 _) HB1.out sm).below hb2 om
   have hc0:=hblk.cell 0;have hc1:=hblk.cell 1;have hf0:=hblk.frozen 0;have hf1:=hblk.frozen 1;simp only[fz,dE,dd]at hc0 hc1;have HK:=ab hblk;clear hblk;have HI:=ab hI2;clear hI2;have HB2:=ab hb2;clear hb2;go_wp2;exact cQ (v:=.agg #[.bool neg,.slice A2 n2 c2]) (by simp[results,FQ,go_sem,hc0,hc1]) rfl
    (dJ.cell ⟨neg,A2,n2,c2,zs2,rfl,HI.out⟩ HK.out ((HB0.out.trans (HB1.out.mono sm)).trans (HB2.out.mono om)) (ag _) (by rw[HV.out,B7 hs (du hlt)]))
  .rcases aB (bC ys) (bC xs)with hgt|hle
   .have hcm:=kD hgt
    go_enter Qv,M9
    go_wp2_with fail
    have hb0:=(bG w.heap.size w).alloc (ag _) (Obj.cells #[au false,ao none 0 0] 50);have hcall:=im A B n m c d L xs ys (w.alloc (Obj.cells #[au false,ao none 0 0] 50)) om om (HX.out.below hb0 hL) (HY.out.below hb0 hL) HTX.out HTY.out;rw[hcm]at hcall;refine hcall.mono ?_;clear hcall hcm;rintro e w1 ⟨rfl,q,rfl⟩;have HB0:=ab (hb0.trans ((dW.refl _).more q |>.below _));clear hb0
    go_wp2_with fail
    refine(qo A B n m c d L xs ys _ (by have h1:=aD HX.out HTX.out;have h2:=aD HY.out HTY.out;have h3:=fM (du hgt);omega) om (by simp;omega) (HX.out.below HB0.out hL) (HY.out.below HB0.out hL) (du hgt)).mono ?_
    rintro e w1 ⟨A1,k,c1,zs,rfl,hk,hU,hT,hv,hb1⟩;have hk2:k<=536870913:=by
     rw[aD hU hT,hv];have h1:=aD HX.out HTX.out;have h2:=aD HY.out HTY.out;have h3:nl (bC xs-bC ys)<=nl (bC xs):=fM om;have h4:nl (bC ys-bC xs)<=nl (bC ys):=fM om;omega
    have HU:=ab hU;clear hU;have HV:=ab hv;clear hv;have HT:=ab hT;clear hT;have HB1:=ab hb1;clear hb1
    go_wp2_with fail
    refine(gW s1 A1 k c1 w1.heap.size zs w1 hk om (ag _) HU.out HT.out).mono ?_;rintro e w2 ⟨v,rfl,hI,hb2⟩;obtain⟨neg,A2,n2,c2,zs2,rfl,hI2⟩:=hI;have hsz:w.heap.size+1<=w1.heap.size:=by have:=HB1.out.size;simpa using this
    have hblk:fX w2 w.heap.size 50 #[.bool false,.slice none 0 0]:=(fX.below (w:=(w.alloc (Obj.cells #[au false,ao none 0 0] 50)).drewN q) (fX.new w 50 _) HB1.out sm).below hb2 om
    have hc0:=hblk.cell 0;have hc1:=hblk.cell 1;have hf0:=hblk.frozen 0;have hf1:=hblk.frozen 1;simp only[fz,dE,dd]at hc0 hc1;have HK:=ab hblk;clear hblk;have HI:=ab hI2;clear hI2;have HB2:=ab hb2;clear hb2;go_wp2;exact cQ (v:=.agg #[.bool neg,.slice A2 n2 c2]) (by simp[results,FQ,go_sem,hc0,hc1]) rfl
     (dJ.cell ⟨neg,A2,n2,c2,zs2,rfl,HI.out⟩ HK.out ((HB0.out.trans (HB1.out.mono sm)).trans (HB2.out.mono om)) (ag _) (by rw[HV.out,wv hs (du hgt)]))
   .have heq:bC xs=bC ys:=Jy hle hge;have hcm:=lF heq
    go_enter Qv,M9
    go_wp2_with fail
    have hb0:=(bG w.heap.size w).alloc (ag _) (Obj.cells #[au false,ao none 0 0] 50);have hcall:=im A B n m c d L xs ys (w.alloc (Obj.cells #[au false,ao none 0 0] 50)) om om (HX.out.below hb0 hL) (HY.out.below hb0 hL) HTX.out HTY.out;rw[hcm]at hcall;refine hcall.mono ?_;clear hcall hcm;rintro e w1 ⟨rfl,q,rfl⟩;have HB0:=ab (hb0.trans ((dW.refl _).more q |>.below _));clear hb0
    go_wp2_with fail
    refine(qo A B n m c d L xs ys _ (by have h1:=aD HX.out HTX.out;have h2:=aD HY.out HTY.out;have h3:=fM (vY heq.symm);omega) om (by simp;omega) (HX.out.below HB0.out hL) (HY.out.below HB0.out hL) (vY heq.symm)).mono ?_
    rintro e w1 ⟨A1,k,c1,zs,rfl,hk,hU,hT,hv,hb1⟩;have hk2:k<=536870913:=by
     rw[aD hU hT,hv];have h1:=aD HX.out HTX.out;have h2:=aD HY.out HTY.out;have h3:nl (bC xs-bC ys)<=nl (bC xs):=fM om;have h4:nl (bC ys-bC xs)<=nl (bC ys):=fM om;omega
    have HU:=ab hU;clear hU;have HV:=ab hv;clear hv;have HT:=ab hT;clear hT;have HB1:=ab hb1;clear hb1
    go_wp2_with fail
    refine(gW s1 A1 k c1 w1.heap.size zs w1 hk om (ag _) HU.out HT.out).mono ?_;rintro e w2 ⟨v,rfl,hI,hb2⟩;obtain⟨neg,A2,n2,c2,zs2,rfl,hI2⟩:=hI;have hsz:w.heap.size+1<=w1.heap.size:=by have:=HB1.out.size;simpa using this
    have hblk:fX w2 w.heap.size 50 #[.bool false,.slice none 0 0]:=(fX.below (w:=(w.alloc (Obj.cells #[au false,ao none 0 0] 50)).drewN q) (fX.new w 50 _) HB1.out sm).below hb2 om
    have hc0:=hblk.cell 0;have hc1:=hblk.cell 1;have hf0:=hblk.frozen 0;have hf1:=hblk.frozen 1;simp only[fz,dE,dd]at hc0 hc1;have HK:=ab hblk;clear hblk;have HI:=ab hI2;clear hI2;have HB2:=ab hb2;clear hb2;go_wp2;exact cQ (v:=.agg #[.bool neg,.slice A2 n2 c2]) (by simp[results,FQ,go_sem,hc0,hc1]) rfl
     (dJ.cell ⟨neg,A2,n2,c2,zs2,rfl,HI.out⟩ HK.out ((HB0.out.trans (HB1.out.mono sm)).trans (HB2.out.mono om)) (ag _) (by rw[HV.out,wv hs (vY heq.symm)]))

def fR(A:Option Addr)(n c B:Nat)(xs:List Nat)(w:World)(b:n<=c)(d:n<=9223372036854775807)(h:cE w B A n xs)(f:pg xs) :
  Calls ak 136 #[.slice A n c] w fun e w'=>e=.returned (.slice A n c)/\w=w' :=
 (kM A n c B xs w b d h).mono fun e w' ⟨⟨k,p,g,i,j,l⟩,m⟩=>by
  have a:=aD i j;have o:=aD h f;rw[l,<-o]at a;subst a;exact⟨g,m⟩
def eW{a b:Value}(h:fX w g 50 #[a,b]):w.cell? ⟨g,0,none⟩=some a/\w.cell? ⟨g,1,none⟩=some b:=by
 have c:=h.cell 0;have d:=h.cell 1;simpa using⟨c,d⟩
def P4(va vb:Value)(za zb:Int)(B:Nat)(w:World)(hB:B<=w.heap.size)(ha:eC w B va za)(hb:eC w B vb zb)(sa:nl za.natAbs<=536870912)(sb:nl zb.natAbs<=536870912) :
  Calls ak 133 #[va,vb] w (dJ w (za+zb)):=by
 obtain⟨s1,A,n,c,xs,rfl,hnc,hx,tx,rfl⟩:=ha;obtain⟨s2,D,m,d,ys,rfl,hmd,hy,ty,rfl⟩:=hb;rw[fJ,<-aD hx tx]at sa;rw[fJ,<-aD hy ty]at sb;have HX:=ab hx;clear hx;have HY:=ab hy;clear hy;have HTX:=ab tx;clear tx;have HTY:=ab ty;clear ty
 go_enter func133,ntmps133
 go_wp2;have hb0:=((((bG w.heap.size w).alloc (ag _) (Obj.cells #[au s1,ao A n c] 50)).alloc sm (Obj.cells #[au s2,ao D m d] 50)).alloc (by simp;omega) (Obj.cells #[au false,ao none 0 0] 50))
 have k1:fX (((w.alloc (Obj.cells #[au s1,ao A n c] 50)).alloc (Obj.cells #[au s2,ao D m d] 50)).alloc (Obj.cells #[au false,ao none 0 0] 50)) w.heap.size 50 #[au s1,ao A n c] :=
  ((fX.new w 50 _).below ((bG _ _).alloc (ag _) _) sm).below ((bG _ _).alloc (ag _) _) (by simp;omega)
 have k2:fX (((w.alloc (Obj.cells #[au s1,ao A n c] 50)).alloc (Obj.cells #[au s2,ao D m d] 50)).alloc (Obj.cells #[au false,ao none 0 0] 50)) (w.heap.size+1) 50 #[au s2,ao D m d]:=by
  have h:=(fX.new (w.alloc (Obj.cells #[au s1,ao A n c] 50)) 50 #[au s2,ao D m d]).below ((bG _ _).alloc (ag _) (Obj.cells #[au false,ao none 0 0] 50)) sm
  simpa using h
 have k3:fX (((w.alloc (Obj.cells #[au s1,ao A n c] 50)).alloc (Obj.cells #[au s2,ao D m d] 50)).alloc (Obj.cells #[au false,ao none 0 0] 50)) (w.heap.size+2) 50 #[au false,ao none 0 0]:=by
  have h:=fX.new ((w.alloc (Obj.cells #[au s1,ao A n c] 50)).alloc (Obj.cells #[au s2,ao D m d] 50)) 50 #[au false,ao none 0 0];simpa using h
 generalize (((w.alloc (Obj.cells #[au s1,ao A n c] 50)).alloc (Obj.cells #[au s2,ao D m d] 50)).alloc (Obj.cells #[au false,ao none 0 0] 50))=W at hb0 k1 k2 k3 ⊢;obtain⟨a0,a1⟩:=eW k1;obtain⟨b0,b1⟩:=eW k2;have HK1:=ab k1;clear k1;have HK2:=ab k2;clear k2;have HK3:=ab k3;clear k3;have HB0:=ab hb0;clear hb0;have hg2:w.heap.size+2<W.heap.size:=HK3.out.lt;have HS:=ab (show ∀w1,Below (w.heap.size+2) W w1->(w1.cell? ⟨w.heap.size,0,none⟩=some (.bool s1)/\w1.cell? ⟨w.heap.size,1,none⟩=some (.slice A n c)/\w1.cell? ⟨w.heap.size+1,0,none⟩=some (.bool s2)/\w1.cell? ⟨w.heap.size+1,1,none⟩=some (.slice D m d)/\Below (w.heap.size+2) W w1)from
  fun w1 h=>⟨(h.cell (by show w.heap.size<_;omega)).trans a0,(h.cell (by show w.heap.size<_;omega)).trans a1,(h.cell (by show w.heap.size+1<_;omega)).trans b0,(h.cell (by show w.heap.size+1<_;omega)).trans b1,h⟩)
 have HUX:Hid (cE W.drew B A n xs):=ab (HX.out.below HB0.out.drew hB);have HUY:Hid (cE W.drew B D m ys):=ab (HY.out.below HB0.out.drew hB)
 go_region_held3 (fun w'=>w'.cell? ⟨w.heap.size,0,none⟩=some (.bool s1)/\w'.cell? ⟨w.heap.size,1,none⟩=some (.slice A n c)/\w'.cell? ⟨w.heap.size+1,0,none⟩=some (.bool s2)/\w'.cell? ⟨w.heap.size+1,1,none⟩=some (.slice D m d)/\Below (w.heap.size+2) W w')
  (first|exact HS.out _ (bG _ _).drew|assumption|exact HS.out _ (by assumption)|exact HS.out _ (ew (ew (by assumption) sm _) sm _))
  (first
   | (go_at_call_of 136 (ao A n c);refine(fR A n c B xs W.drew hnc om HUX.out HTX.out).mono ?_;rintro e w' ⟨rfl,rfl⟩)
   | (go_at_call_of 136 (ao D m d);refine(fR D m d B ys W.drew hmd om HUY.out HTY.out).mono ?_;rintro e w' ⟨rfl,rfl⟩)
   | (go_at_call 194;refine(sS s1 s2 A D n m c d B xs ys W.drew sa sb (by show B<=W.heap.size;omega) HUX.out HUY.out HTX.out HTY.out).mono ?_;rintro e w1 ⟨v,rfl,hI,hbn⟩;obtain⟨neg,A2,n2,c2,zs2,rfl,hI2⟩:=hI;have hB1:Below (w.heap.size+2) W w1:=(bG _ W).drew.trans (hbn.mono (by show _<=W.heap.size;omega));have HI:=ab hI2;clear hI2;have hk3:=fX.below (w:=W.drew) HK3.out hbn hg2;obtain⟨e0,e1⟩:=eW hk3;have f0:=hk3.frozen 0;have f1:=hk3.frozen 1;have HK4:=ab hk3;clear hk3 hbn))
 go_wp2;exact cQ (v:=.agg #[.bool neg,.slice A2 n2 c2]) (by simp[results,results133,go_sem,e0,e1]) rfl
   (dJ.cell ⟨neg,A2,n2,c2,zs2,rfl,HI.out⟩ HK4.out (HB0.out.trans (hB1.mono om)) om rfl)
def PE(va vb:Value)(za zb:Int)(B:Nat)(w:World)(hB:B<=w.heap.size)(ha:eC w B va za)(hb:eC w B vb zb)(sa:nl za.natAbs<=536870912)(sb:nl zb.natAbs<=536870912) :
  Calls ak 192 #[va,vb] w (dJ w (za-zb)):=by
 obtain⟨s1,A,n,c,xs,rfl,hnc,hx,tx,rfl⟩:=ha;obtain⟨s2,D,m,d,ys,rfl,hmd,hy,ty,rfl⟩:=hb;rw[fJ,<-aD hx tx]at sa;rw[fJ,<-aD hy ty]at sb;have HX:=ab hx;clear hx;have HY:=ab hy;clear hy;have HTX:=ab tx;clear tx;have HTY:=ab ty;clear ty
 go_enter func192,ntmps192
 go_wp2;have hb0:=((((bG w.heap.size w).alloc (ag _) (Obj.cells #[au s1,ao A n c] 50)).alloc sm (Obj.cells #[au s2,ao D m d] 50)).alloc (by simp;omega) (Obj.cells #[au false,ao none 0 0] 50))
 have k1:fX (((w.alloc (Obj.cells #[au s1,ao A n c] 50)).alloc (Obj.cells #[au s2,ao D m d] 50)).alloc (Obj.cells #[au false,ao none 0 0] 50)) w.heap.size 50 #[au s1,ao A n c] :=
  ((fX.new w 50 _).below ((bG _ _).alloc (ag _) _) sm).below ((bG _ _).alloc (ag _) _) (by simp;omega)
 have k2:fX (((w.alloc (Obj.cells #[au s1,ao A n c] 50)).alloc (Obj.cells #[au s2,ao D m d] 50)).alloc (Obj.cells #[au false,ao none 0 0] 50)) (w.heap.size+1) 50 #[au s2,ao D m d]:=by
  have h:=(fX.new (w.alloc (Obj.cells #[au s1,ao A n c] 50)) 50 #[au s2,ao D m d]).below ((bG _ _).alloc (ag _) (Obj.cells #[au false,ao none 0 0] 50)) sm
  simpa using h
 have k3:fX (((w.alloc (Obj.cells #[au s1,ao A n c] 50)).alloc (Obj.cells #[au s2,ao D m d] 50)).alloc (Obj.cells #[au false,ao none 0 0] 50)) (w.heap.size+2) 50 #[au false,ao none 0 0]:=by
  have h:=fX.new ((w.alloc (Obj.cells #[au s1,ao A n c] 50)).alloc (Obj.cells #[au s2,ao D m d] 50)) 50 #[au false,ao none 0 0];simpa using h
 generalize (((w.alloc (Obj.cells #[au s1,ao A n c] 50)).alloc (Obj.cells #[au s2,ao D m d] 50)).alloc (Obj.cells #[au false,ao none 0 0] 50))=W at hb0 k1 k2 k3 ⊢;obtain⟨a0,a1⟩:=eW k1;obtain⟨b0,b1⟩:=eW k2;have HK1:=ab k1;clear k1;have HK2:=ab k2;clear k2;have HK3:=ab k3;clear k3;have HB0:=ab hb0;clear hb0;have hg2:w.heap.size+2<W.heap.size:=HK3.out.lt;have HS:=ab (show ∀w1,Below (w.heap.size+2) W w1->(w1.cell? ⟨w.heap.size,0,none⟩=some (.bool s1)/\w1.cell? ⟨w.heap.size,1,none⟩=some (.slice A n c)/\w1.cell? ⟨w.heap.size+1,0,none⟩=some (.bool s2)/\w1.cell? ⟨w.heap.size+1,1,none⟩=some (.slice D m d)/\Below (w.heap.size+2) W w1)from
  fun w1 h=>⟨(h.cell (by show w.heap.size<_;omega)).trans a0,(h.cell (by show w.heap.size<_;omega)).trans a1,(h.cell (by show w.heap.size+1<_;omega)).trans b0,(h.cell (by show w.heap.size+1<_;omega)).trans b1,h⟩)
 have HUX:Hid (cE W.drew B A n xs):=ab (HX.out.below HB0.out.drew hB);have HUY:Hid (cE W.drew B D m ys):=ab (HY.out.below HB0.out.drew hB)
 go_region_held3 (fun w'=>w'.cell? ⟨w.heap.size,0,none⟩=some (.bool s1)/\w'.cell? ⟨w.heap.size,1,none⟩=some (.slice A n c)/\w'.cell? ⟨w.heap.size+1,0,none⟩=some (.bool s2)/\w'.cell? ⟨w.heap.size+1,1,none⟩=some (.slice D m d)/\Below (w.heap.size+2) W w')
  (first|exact HS.out _ (bG _ _).drew|assumption|exact HS.out _ (by assumption)|exact HS.out _ (ew (ew (by assumption) sm _) sm _))
  (first
   | (go_at_call_of 136 (ao A n c);refine(fR A n c B xs W.drew hnc om HUX.out HTX.out).mono ?_;rintro e w' ⟨rfl,rfl⟩)
   | (go_at_call_of 136 (ao D m d);refine(fR D m d B ys W.drew hmd om HUY.out HTY.out).mono ?_;rintro e w' ⟨rfl,rfl⟩)
   | (go_at_call 194;refine(sS s1 (!s2) A D n m c d B xs ys W.drew sa sb (by show B<=W.heap.size;omega) HUX.out HUY.out HTX.out HTY.out).mono ?_;rintro e w1 ⟨v,rfl,hI,hbn⟩;obtain⟨neg,A2,n2,c2,zs2,rfl,hI2⟩:=hI;have hB1:Below (w.heap.size+2) W w1:=(bG _ W).drew.trans (hbn.mono (by show _<=W.heap.size;omega));have HI:=ab hI2;clear hI2;have hk3:=fX.below (w:=W.drew) HK3.out hbn hg2;obtain⟨e0,e1⟩:=eW hk3;have f0:=hk3.frozen 0;have f1:=hk3.frozen 1;have HK4:=ab hk3;clear hk3 hbn))
 go_wp2;exact cQ (v:=.agg #[.bool neg,.slice A2 n2 c2]) (by simp[results,results192,go_sem,e0,e1]) rfl
   (dJ.cell ⟨neg,A2,n2,c2,zs2,rfl,HI.out⟩ HK4.out (HB0.out.trans (hB1.mono om)) om (by rw[GA];omega))
def AR(va:Value)(za:Int)(B:Nat)(w:World)(hB:B<=w.heap.size)(ha:eC w B va za)(sa:nl za.natAbs<=536870912) :
  Calls ak 191 #[va] w fun e w'=>e=.returned (.int .i64 za.sign)/\Below w.heap.size w w':=by
 obtain⟨s1,A,n,c,xs,rfl,hnc,hx,tx,rfl⟩:=ha;rw[fJ,<-aD hx tx]at sa;have hb0:=(bG w.heap.size w).alloc (ag _) (Obj.cells #[au s1,ao A n c] 50);have HU:=ab (hx.below hb0 hB);have HL:=ab (aD hx tx);have HT:=ab tx;clear tx;have HX:=ab hx;clear hx;have HB:=ab hb0;clear hb0;by_cases h0:n=0
 .subst h0;have hv:bC xs=0:=by rw[mQ.1 HX.out.1]<;>rfl
  have hr:(sg s1 (bC xs)).sign=0:=by rw[hv,tU]<;>rfl
  have HR:=ab hr;clear hr hv
  go_enter func191,Tz
  go_wp2_with fail
  refine(fR A 0 c B xs _ hnc om HU.out HT.out).mono ?_;rintro e w' ⟨rfl,rfl⟩;go_wp2;go_ret;exact⟨by rw[HR.out];rfl,HB.out⟩
 .have hv:0<bC xs:=by
   rcases bD (bC xs)with h|h
   .have:=HL.out;rw[h]at this;simp[nl]at this;omega
   .exact h
  have h1:((n:Int)==0)=false:=by simp;omega
  cases s1
  .have hr:(sg false (bC xs)).sign=1:=by simp[sg];omega
   have HR:=ab hr;clear hr hv
   go_enter func191,Tz
   go_wp2_with fail
   refine(fR A n c B xs _ hnc om HU.out HT.out).mono ?_;rintro e w' ⟨rfl,rfl⟩;go_wp2;go_ret;exact⟨by rw[HR.out];rfl,HB.out⟩
  .have hr:(sg true (bC xs)).sign=-1:=by simp[sg];omega
   have HR:=ab hr;clear hr hv
   go_enter func191,Tz
   go_wp2_with fail
   refine(fR A n c B xs _ hnc om HU.out HT.out).mono ?_;rintro e w' ⟨rfl,rfl⟩;go_wp2;go_ret;exact⟨by rw[HR.out];rfl,HB.out⟩
def KP(z:Int)(w:World)(h1:-9223372036854775808<=z)(h2:z<=9223372036854775807):Calls ak 81 #[.int .i64 z] w (dJ w z):=by
 have hb0:=(bG w.heap.size w).alloc (ag _) (Obj.cells #[au false,ao none 0 0] 50);have HB0:=ab hb0;clear hb0;by_cases hz:z<0
 .go_enter func81,ntmps81
  go_wp2_with fail
  rw[show IntKind.u64.wrap (-IntKind.u64.wrap z)=((z.natAbs:Nat):Int)from by rw[ci,ci];omega]
  refine(kA z.natAbs _ om).mono ?_;rintro e w1 ⟨A1,k,c1,zs,rfl,hk,hU,hT,hv,hb1⟩;have hk2:k<=2:=by rw[aD hU hT,hv];exact jR.2 om
  have HU:=ab hU;clear hU;have HV:=ab hv;clear hv;have HT:=ab hT;clear hT;have HB1:=ab hb1;clear hb1
  go_wp2_with fail
  refine(gW true A1 k c1 w1.heap.size zs w1 hk om (ag _) HU.out HT.out).mono ?_;rintro e w2 ⟨v,rfl,hI,hb2⟩;obtain⟨neg,A2,n2,c2,zs2,rfl,hI2⟩:=hI;have hsz:w.heap.size+1<=w1.heap.size:=by have:=HB1.out.size;simpa using this
  have hblk:fX w2 w.heap.size 50 #[.bool false,.slice none 0 0]:=(fX.below (w:=w.alloc (Obj.cells #[au false,ao none 0 0] 50)) (fX.new w 50 _) HB1.out sm).below hb2 om
  obtain⟨hc0,hc1⟩:=eW hblk;have hf0:=hblk.frozen 0;have hf1:=hblk.frozen 1;have HK:=ab hblk;clear hblk;have HI:=ab hI2;clear hI2;have HB2:=ab hb2;clear hb2;go_wp2;exact cQ (v:=.agg #[.bool neg,.slice A2 n2 c2]) (by simp[results,results81,go_sem,hc0,hc1]) rfl
   (dJ.cell ⟨neg,A2,n2,c2,zs2,rfl,HI.out⟩ HK.out ((HB0.out.trans (HB1.out.mono sm)).trans (HB2.out.mono om)) (ag _) (by rw[HV.out];simp[sg];omega))
 .go_enter func81,ntmps81
  go_wp2_with fail
  obtain⟨v0,rfl⟩:∃v0:Nat,z=(v0:Int):=⟨z.toNat,om⟩
  refine(kA v0 _ om).mono ?_;rintro e w1 ⟨A1,k,c1,zs,rfl,hk,hU,hT,hv,hb1⟩;have hk2:k<=2:=by rw[aD hU hT,hv];exact jR.2 om
  have HU:=ab hU;clear hU;have HV:=ab hv;clear hv;have HT:=ab hT;clear hT;have HB1:=ab hb1;clear hb1
  go_wp2_with fail
  refine(gW false A1 k c1 w1.heap.size zs w1 hk om (ag _) HU.out HT.out).mono ?_;rintro e w2 ⟨v,rfl,hI,hb2⟩;obtain⟨neg,A2,n2,c2,zs2,rfl,hI2⟩:=hI;have hsz:w.heap.size+1<=w1.heap.size:=by have:=HB1.out.size;simpa using this
  have hblk:fX w2 w.heap.size 50 #[.bool false,.slice none 0 0]:=(fX.below (w:=w.alloc (Obj.cells #[au false,ao none 0 0] 50)) (fX.new w 50 _) HB1.out sm).below hb2 om
  obtain⟨hc0,hc1⟩:=eW hblk;have hf0:=hblk.frozen 0;have hf1:=hblk.frozen 1;have HK:=ab hblk;clear hblk;have HI:=ab hI2;clear hI2;have HB2:=ab hb2;clear hb2;go_wp2;exact cQ (v:=.agg #[.bool neg,.slice A2 n2 c2]) (by simp[results,results81,go_sem,hc0,hc1]) rfl
   (dJ.cell ⟨neg,A2,n2,c2,zs2,rfl,HI.out⟩ HK.out ((HB0.out.trans (HB1.out.mono sm)).trans (HB2.out.mono om)) (ag _) (by rw[HV.out];simp[sg]))

def G6:ak.info? 136=some Tryz.t136:=by kernel_rfl
def Gm:Tryz.t136.zero=some (.int .u32 0):=by kernel_rfl
def GE:Tryz.t136.size=1:=by kernel_rfl
def Hs:Tryz.t136.bytes=4:=by kernel_rfl
def ku{row:Option Nat}(h:w.grownBy w' row)(b:B<=w.heap.size)(a:∀g,row=some g->B<=g):Below B w w' :=
 ⟨h.os,h.tape,h.output,h.size,fun k c=>h.block k om (fun e=>by have:=a _ e.symm;omega)⟩
def cE.cells(h:cE w B (some ad) n xs):∀(j:Nat) (u:Value),(xs.map (fun x:Nat=>dx .u32 x))[j]? = some u->w.cell? (ad.add j)=some u:=by
 intro j u b;rw[li]at b;have a:j<xs.length:=by
  rcases aB j xs.length with c|d
  .exact c
  .rw[dX d]at b;cases b
 rw[bE a]at b;simp only[dw,fY]at b;obtain⟨ad',e,_,f⟩:=h.2.2 (by rw[<-h.1];omega)
 cases e
 rw[f j (by rw[<-h.1];exact a),<-b]
 simp[df,bE a]
def cE.ofOwn{base:Nat}(h:w.ownsRow base 136 1 (.slice A n c) n (xs.map (fun x:Nat=>dx .u32 x)))(e:mX xs):cE w w.heap.size A n xs/\n<=c:=by
 have f:xs.length=n:=by simpa using h.1
 rcases h.2 with⟨a,i⟩|⟨g,cap,cur,a,_,l,b,_,_,htake⟩
 .injection a with d m k
  subst i;exact⟨⟨f,e,fun h=>absurd h om⟩,lq _⟩
 .injection a with d m k
  subst k;refine⟨⟨f,e,fun i=>⟨_,d,fX.lt (show fX w g 136 cur from l),fun j o=>?_⟩⟩,b⟩;subst d;exact h.cells (g:=g) rfl j _ (by rw[li,bE om];simp[df,bE (om:j<xs.length)])
def wQ(A:Option Addr)(n c B:Nat)(xs:List Nat)(w:World)(hm:n<=1073741824)(hB:B<=w.heap.size)(h:cE w B A n xs) :
  Calls ak 196 #[.slice A n c] w fun e w'=>∃A' c',e=.returned (.slice A' n c')/\n<=c'/\cE w' w'.heap.size A' n xs/\Below w.heap.size w w':=by
 have HX:=ab h;clear h;have q48:∀(w:World) (a:Option Addr) (n c n' c':Nat),(binOp .eql 48 (.slice a n c) (.slice none n' c')).run ak w=.ok (.bool a.isNone) w:=fun w a n c n' c'=>AW w _ _ a n c n' c' fO
 cases A with
 | none =>
  have h0:n=0:=by
   rcases bD n with h|h
   .exact h
   .obtain⟨ad,e,_⟩:=HX.out.2.2 h;cases e
  subst h0
  go_enter func196,Tx
  go_wp2;go_ret;exact⟨none,0,rfl,ag _,⟨HX.out.1,HX.out.2.1,fun h=>absurd h om⟩,bG _ _⟩
 | some ad =>
  go_enter func196,Tx
  go_wp2_with (at_builtin;refine qi _ rfl _ _ 48 rfl w.heap.size 136 Tryz.t136 (.int .u32 0) 1 4 fO G6 Gm GE Hs rfl om _ 0 [] rfl (Tw (e:=136) (size:=1) w #[] 0 (ag _) (by simp[maxLen]) rfl) ad n c (xs.map (fun x:Nat=>dx .u32 x)) rfl (by simp[HX.out.1]) (cE.cells (HX.out.below ((bG _ _).alloc hB _) (ag _))) (by intro u hu;simp only[ib]at hu;obtain⟨x,_,rfl⟩:=hu;rfl) (by simp[maxLen];omega) om sm ?_)
  intro v' w1 hown hgrow hnil hat;obtain⟨g,cap,rfl⟩:∃g cap,v'=.slice (some ⟨g,0,none⟩) n cap:=by
   rcases hown.2 with⟨h,_⟩|⟨g,cap,_,h,_⟩
   .exact absurd h hnil
   .exact⟨g,cap,h⟩
  obtain⟨hU,hc⟩:=cE.ofOwn hown HX.out.2.1;have HU:=ab hU;have HB:=ab (((bG w.heap.size w).alloc (ag _) (Obj.cells #[] 136)).trans (ku hgrow (B:=w.heap.size) sm (by intro g h;cases h;exact ag _)))
  clear hU hown hgrow hnil hat;go_wp2;go_ret;exact⟨_,_,rfl,hc,HU.out,HB.out⟩
def rF(w:World)(a b:Array Value) :
  Below w.heap.size w ((w.alloc (.cells a 50)).alloc (.cells b 50))/\fX ((w.alloc (.cells a 50)).alloc (.cells b 50)) w.heap.size 50 a/\fX ((w.alloc (.cells a 50)).alloc (.cells b 50)) (w.heap.size+1) 50 b:=by
 refine⟨((bG w.heap.size w).alloc (ag _) _).alloc sm _,(fX.new w 50 _).below ((bG _ _).alloc (ag _) _) sm,?_⟩
 have h:=fX.new (w.alloc (.cells a 50)) 50 b;simpa using h
def AD(w:World)(a b c:Array Value) :
  Below w.heap.size w (((w.alloc (.cells a 50)).alloc (.cells b 50)).alloc (.cells c 50))/\fX (((w.alloc (.cells a 50)).alloc (.cells b 50)).alloc (.cells c 50)) w.heap.size 50 a/\fX (((w.alloc (.cells a 50)).alloc (.cells b 50)).alloc (.cells c 50)) (w.heap.size+1) 50 b/\fX (((w.alloc (.cells a 50)).alloc (.cells b 50)).alloc (.cells c 50)) (w.heap.size+2) 50 c:=by
 obtain⟨d,e,f⟩:=rF w a b;refine⟨d.alloc (by simp;omega) _,e.below ((bG _ _).alloc (ag _) _) (by simp;omega),f.below ((bG _ _).alloc (ag _) _) sm,?_⟩
 have h:=fX.new ((w.alloc (.cells a 50)).alloc (.cells b 50)) 50 c;simpa using h
def PN(va:Value)(za:Int)(B:Nat)(w:World)(hB:B<=w.heap.size)(ha:eC w B va za)(sa:nl za.natAbs<=536870912) :
  Calls ak 193 #[va] w (dJ w (-za)):=by
 obtain⟨s1,A,n,c,xs,rfl,hnc,hx,tx,rfl⟩:=ha;rw[fJ,<-aD hx tx]at sa;have HX:=ab hx;clear hx;have HTX:=ab tx;clear tx
 go_enter func193,ntmps193
 go_wp2;obtain⟨hb0,k1,k3⟩:=rF w #[au s1,ao A n c] #[au false,ao none 0 0];generalize ((w.alloc (Obj.cells #[au s1,ao A n c] 50)).alloc (Obj.cells #[au false,ao none 0 0] 50))=W at hb0 k1 k3 ⊢;obtain⟨a0,a1⟩:=eW k1;have HK1:=ab k1;clear k1;have HK3:=ab k3;clear k3;have HB0:=ab hb0;clear hb0;have hg2:w.heap.size+1<W.heap.size:=HK3.out.lt;have HS:=ab (show ∀w1,Below (w.heap.size+1) W w1->(w1.cell? ⟨w.heap.size,0,none⟩=some (.bool s1)/\w1.cell? ⟨w.heap.size,1,none⟩=some (.slice A n c)/\Below (w.heap.size+1) W w1)from
  fun w1 h=>⟨(h.cell (by show w.heap.size<_;omega)).trans a0,(h.cell (by show w.heap.size<_;omega)).trans a1,h⟩)
 have HUX:Hid (cE W.drew B A n xs):=ab (HX.out.below HB0.out.drew hB)
 go_region_held3 (fun w'=>w'.cell? ⟨w.heap.size,0,none⟩=some (.bool s1)/\w'.cell? ⟨w.heap.size,1,none⟩=some (.slice A n c)/\Below (w.heap.size+1) W w')
  (first|exact HS.out _ (bG _ _).drew|assumption|exact HS.out _ (by assumption)|exact HS.out _ (ew (ew (by assumption) sm _) sm _))
  (first
   | (go_at_call_of 136 (ao A n c);refine(fR A n c B xs W.drew hnc om HUX.out HTX.out).mono ?_;rintro e w' ⟨rfl,rfl⟩)
   | (go_at_call 196;refine(wQ A n c B xs W.drew om (by show B<=W.heap.size;omega) HUX.out).mono ?_;rintro e w1 ⟨A1,c1,rfl,hc1,hU1,hbn1⟩;have HU1:=ab hU1;clear hU1;have hB1:Below (w.heap.size+1) W w1:=(bG _ W).drew.trans (hbn1.mono (by show _<=W.heap.size;omega));have HK2:=ab (fX.below (w:=W.drew) HK3.out hbn1 hg2);clear hbn1;have hsz:=HK2.out.lt)
   | (go_at_call 134;refine(gW (!s1) A1 n c1 w1.heap.size xs w1 hc1 om (ag _) HU1.out HTX.out).mono ?_;rintro e w2 ⟨v,rfl,hI,hbn⟩;obtain⟨neg,A2,n2,c2,zs2,rfl,hI2⟩:=hI;have hB2:Below (w.heap.size+1) W w2:=hB1.trans (hbn.mono om);have HI:=ab hI2;clear hI2;have hk3:=HK2.out.below hbn hsz;obtain⟨e0,e1⟩:=eW hk3;have f0:=hk3.frozen 0;have f1:=hk3.frozen 1;have HK4:=ab hk3;clear hk3 hbn))
 go_wp2;exact cQ (v:=.agg #[.bool neg,.slice A2 n2 c2]) (by simp[results,results193,go_sem,e0,e1]) rfl
   (dJ.cell ⟨neg,A2,n2,c2,zs2,rfl,HI.out⟩ HK4.out (HB0.out.trans (hB2.mono om)) om (by rw[GA]))
def BE(va:Value)(za:Int)(B:Nat)(w:World)(hB:B<=w.heap.size)(ha:eC w B va za)(sa:nl za.natAbs<=536870912) :
  Calls ak 157 #[va] w (dJ w (za)):=by
 obtain⟨s1,A,n,c,xs,rfl,hnc,hx,tx,rfl⟩:=ha;rw[fJ,<-aD hx tx]at sa;have HX:=ab hx;clear hx;have HTX:=ab tx;clear tx
 go_enter func157,ntmps157
 go_wp2;obtain⟨hb0,k1,k3⟩:=rF w #[au s1,ao A n c] #[au false,ao none 0 0];generalize ((w.alloc (Obj.cells #[au s1,ao A n c] 50)).alloc (Obj.cells #[au false,ao none 0 0] 50))=W at hb0 k1 k3 ⊢;obtain⟨a0,a1⟩:=eW k1;have HK1:=ab k1;clear k1;have HK3:=ab k3;clear k3;have HB0:=ab hb0;clear hb0;have hg2:w.heap.size+1<W.heap.size:=HK3.out.lt;have HS:=ab (show ∀w1,Below (w.heap.size+1) W w1->(w1.cell? ⟨w.heap.size,0,none⟩=some (.bool s1)/\w1.cell? ⟨w.heap.size,1,none⟩=some (.slice A n c)/\Below (w.heap.size+1) W w1)from
  fun w1 h=>⟨(h.cell (by show w.heap.size<_;omega)).trans a0,(h.cell (by show w.heap.size<_;omega)).trans a1,h⟩)
 have HUX:Hid (cE W.drew B A n xs):=ab (HX.out.below HB0.out.drew hB)
 go_region_held3 (fun w'=>w'.cell? ⟨w.heap.size,0,none⟩=some (.bool s1)/\w'.cell? ⟨w.heap.size,1,none⟩=some (.slice A n c)/\Below (w.heap.size+1) W w')
  (first|exact HS.out _ (bG _ _).drew|assumption|exact HS.out _ (by assumption)|exact HS.out _ (ew (ew (by assumption) sm _) sm _))
  (first
   | (go_at_call_of 136 (ao A n c);refine(fR A n c B xs W.drew hnc om HUX.out HTX.out).mono ?_;rintro e w' ⟨rfl,rfl⟩)
   | (go_at_call 196;refine(wQ A n c B xs W.drew om (by show B<=W.heap.size;omega) HUX.out).mono ?_;rintro e w1 ⟨A1,c1,rfl,hc1,hU1,hbn1⟩;have HU1:=ab hU1;clear hU1;have hB1:Below (w.heap.size+1) W w1:=(bG _ W).drew.trans (hbn1.mono (by show _<=W.heap.size;omega));have HK2:=ab (fX.below (w:=W.drew) HK3.out hbn1 hg2);clear hbn1;have hsz:=HK2.out.lt)
   | (go_at_call 134;refine(gW s1 A1 n c1 w1.heap.size xs w1 hc1 om (ag _) HU1.out HTX.out).mono ?_;rintro e w2 ⟨v,rfl,hI,hbn⟩;obtain⟨neg,A2,n2,c2,zs2,rfl,hI2⟩:=hI;have hB2:Below (w.heap.size+1) W w2:=hB1.trans (hbn.mono om);have HI:=ab hI2;clear hI2;have hk3:=HK2.out.below hbn hsz;obtain⟨e0,e1⟩:=eW hk3;have f0:=hk3.frozen 0;have f1:=hk3.frozen 1;have HK4:=ab hk3;clear hk3 hbn))
 go_wp2;exact cQ (v:=.agg #[.bool neg,.slice A2 n2 c2]) (by simp[results,results157,go_sem,e0,e1]) rfl
   (dJ.cell ⟨neg,A2,n2,c2,zs2,rfl,HI.out⟩ HK4.out (HB0.out.trans (hB2.mono om)) om (rfl))

def kC(a b:Int):Int:=if a<b then -1 else if b<a then 1 else 0
def nR(s:Bool)(v:Nat):(sg s v).sign=0/\v=0∨(sg s v).sign=1/\s=false/\0<v∨(sg s v).sign=-1/\s=true/\0<v:=by
 rcases bD v with rfl|h
 .left;cases s<;>simp[sg]
 .cases s
  .right;left;simp[sg];omega
  .right;right;simp[sg];omega
def Ax{a b:Int}:(a.sign<b.sign->kC a b=-1)/\(b.sign<a.sign->kC a b=1):=by
 have c:a<0/\a.sign=-1∨a=0/\a.sign=0∨0<a/\a.sign=1:=by
  rcases ej a 0 with h|h|h
  .exact .inl ⟨h,eI h⟩
  .exact .inr (.inl ⟨h,by rw[h];rfl⟩)
  .exact .inr (.inr ⟨h,cX h⟩)
 have d:b<0/\b.sign=-1∨b=0/\b.sign=0∨0<b/\b.sign=1:=by
  rcases ej b 0 with h|h|h
  .exact .inl ⟨h,eI h⟩
  .exact .inr (.inl ⟨h,by rw[h];rfl⟩)
  .exact .inr (.inr ⟨h,cX h⟩)
 unfold kC;constructor<;>intro h<;>(repeat' split)<;>omega
def Cp{s1 s2:Bool}{a b:Nat}(h:(sg s1 a).sign=(sg s2 b).sign):(sg s1 a).sign*lg a b=kC (sg s1 a) (sg s2 b):=by
 have f:a<b/\lg a b=-1∨a=b/\lg a b=0∨b<a/\lg a b=1:=by
  rcases c8 a b with h|h|h
  .exact .inl ⟨h,lE h⟩
  .exact .inr (.inl ⟨h,lF h⟩)
  .exact .inr (.inr ⟨h,kD h⟩)
 rcases nR s1 a with⟨c,rfl⟩|⟨c,rfl,g⟩|⟨c,rfl,g⟩<;>rcases nR s2 b with⟨d,rfl⟩|⟨d,rfl,i⟩|⟨d,rfl,i⟩<;>rw[c,d]at h<;>try omega
 .rw[c];simp[tU,kC]
 .rw[c];unfold kC sg;simp;rcases f with⟨h,e⟩|⟨h,e⟩|⟨h,e⟩<;>rw[e]<;>(repeat' split)<;>omega
 .rw[c];unfold kC sg;simp;rcases f with⟨h,e⟩|⟨h,e⟩|⟨h,e⟩<;>rw[e]<;>(repeat' split)<;>omega
def Dz{x:Int}(a:-9223372036854775808<=x)(b:x<=9223372036854775807):IntKind.i64.wrap x=x:=by rw[pU];omega
def qC(a b:Nat):-1<=lg a b/\lg a b<=1:=by
 rcases c8 a b with h|h|h
 .rw[lE h];omega
 .rw[lF h];omega
 .rw[kD h];omega
def PZ(va vb:Value)(za zb:Int)(B:Nat)(w:World)(hB:B<=w.heap.size)(ha:eC w B va za)(hb:eC w B vb zb)(sa:nl za.natAbs<=536870912)(sb:nl zb.natAbs<=536870912) :
  Calls ak 159 #[va,vb] w fun e w'=>e=.returned (.int .i64 (kC za zb))/\Below w.heap.size w w':=by
 have hA:=ha;have hBb:=hb;have HS0:=ab sa;have HS1:=ab sb;obtain⟨s1,A,n,c,xs,rfl,hnc,hx,tx,rfl⟩:=ha;obtain⟨s2,D,m,d,ys,rfl,hmd,hy,ty,rfl⟩:=hb;rw[fJ,<-aD hx tx]at sa;rw[fJ,<-aD hy ty]at sb;have HA:=ab hA;clear hA;have HBb:=ab hBb;clear hBb;have HX:=ab hx;clear hx;have HY:=ab hy;clear hy;have HTX:=ab tx;clear tx;have HTY:=ab ty;clear ty;have HZ:=ab (@Ax (sg s1 (bC xs)) (sg s2 (bC ys)));have HZ2:=ab (@Cp s1 s2 (bC xs) (bC ys));have HP:Hid (-1<=(sg s1 (bC xs)).sign/\(sg s1 (bC xs)).sign<=1):=ab (by rcases nR s1 (bC xs)with h|h|h<;>omega)
 generalize hp:(sg s1 (bC xs)).sign=p at HZ HZ2 HP;generalize hq:(sg s2 (bC ys)).sign=q at HZ HZ2;generalize hcz:kC (sg s1 (bC xs)) (sg s2 (bC ys))=r at HZ HZ2 ⊢;have hcr:=qC (bC xs) (bC ys);generalize hcm:lg (bC xs) (bC ys)=cm at HZ2 hcr;have Hp:=ab hp;clear hp;have Hq:=ab hq;clear hq;have Hcm:=ab hcm;clear hcm;clear hcz
 go_enter func159,ntmps159
 go_wp2;obtain⟨hb0,k1,k2⟩:=rF w #[au s1,ao A n c] #[au s2,ao D m d];generalize ((w.alloc (Obj.cells #[au s1,ao A n c] 50)).alloc (Obj.cells #[au s2,ao D m d] 50))=W at hb0 k1 k2 ⊢;obtain⟨a0,a1⟩:=eW k1;obtain⟨b0,b1⟩:=eW k2;have HB0:=ab hb0;clear hb0;have hg2:w.heap.size+1<W.heap.size:=k2.lt;have hg1:w.heap.size+2<=W.heap.size:=hg2;clear k1 k2;have HS:=ab (show ∀w1,Below (w.heap.size+2) W w1->(w1.cell? ⟨w.heap.size,0,none⟩=some (.bool s1)/\w1.cell? ⟨w.heap.size,1,none⟩=some (.slice A n c)/\w1.cell? ⟨w.heap.size+1,0,none⟩=some (.bool s2)/\w1.cell? ⟨w.heap.size+1,1,none⟩=some (.slice D m d)/\Below (w.heap.size+2) W w1)from
  fun w1 h=>⟨(h.cell (by show w.heap.size<_;omega)).trans a0,(h.cell (by show w.heap.size<_;omega)).trans a1,(h.cell (by show w.heap.size+1<_;omega)).trans b0,(h.cell (by show w.heap.size+1<_;omega)).trans b1,h⟩)
 go_region_held3 (fun w'=>w'.cell? ⟨w.heap.size,0,none⟩=some (.bool s1)/\w'.cell? ⟨w.heap.size,1,none⟩=some (.slice A n c)/\w'.cell? ⟨w.heap.size+1,0,none⟩=some (.bool s2)/\w'.cell? ⟨w.heap.size+1,1,none⟩=some (.slice D m d)/\Below (w.heap.size+2) W w')
  (first|exact HS.out _ (bG _ _).drew|assumption|exact HS.out _ (by assumption))
  (first
   | (go_at_call_of 191 (Value.agg #[au s1,ao A n c]);refine(AR _ _ B W.drew (by show B<=W.heap.size;omega) (HA.out.below HB0.out.drew hB) HS0.out).mono ?_;rintro e w1 ⟨rfl,hbn⟩;rw[Hp.out];have hB1:Below (w.heap.size+2) W w1:=(bG _ W).drew.trans (hbn.mono hg1);clear hbn)
   | (go_at_call_of 191 (Value.agg #[au s2,ao D m d]);refine(AR _ _ B w1 (by have:=hB1.size;omega) (HBb.out.below (HB0.out.trans (hB1.mono om)) hB) HS1.out).mono ?_;rintro e w2 ⟨rfl,hbn⟩;rw[Hq.out];have hB2:Below (w.heap.size+2) W w2:=hB1.trans (hbn.mono (by have:=hB1.size;omega));clear hbn hB1))
 have HB2:=ab hB2;obtain⟨c0,c1,c2,c3,_⟩:=HS.out _ hB2;clear hB2 a0 a1 b0 b1;rcases ej p q with hlt|heq|hgt
 .have HR:=ab (HZ.out.1 hlt);go_wp2;go_ret;exact⟨by rw[HR.out];rfl,HB0.out.trans (HB2.out.mono om)⟩
 .subst heq;have HR:=ab (HZ2.out rfl);have HUX:Hid (cE w2.drew B A n xs):=ab (HX.out.below (HB0.out.trans (HB2.out.mono om)).drew hB);have HUY:Hid (cE w2.drew B D m ys):=ab (HY.out.below (HB0.out.trans (HB2.out.mono om)).drew hB);have HC:=ab (show ∀w1,Below (w.heap.size+2) W w1->w1.cell? ⟨w.heap.size,1,none⟩=some (.slice A n c)/\w1.cell? ⟨w.heap.size+1,1,none⟩=some (.slice D m d)/\Below (w.heap.size+2) W w1 from fun w1 h=>⟨(HS.out w1 h).2.1,(HS.out w1 h).2.2.2.1,h⟩);have hp3:p=-1∨p=0∨p=1:=by have:=HP.out;omega
  clear HZ HZ2;rcases hp3 with rfl|rfl|rfl
  all_goals
   go_wp2
   go_region_held3 (fun w'=>w'.cell? ⟨w.heap.size,1,none⟩=some (.slice A n c)/\w'.cell? ⟨w.heap.size+1,1,none⟩=some (.slice D m d)/\Below (w.heap.size+2) W w')
    (first|assumption|exact HC.out _ HB2.out.drew|exact HC.out _ (by assumption))
    (first
     | (go_at_call_of 136 (ao A n c);refine(fR A n c B xs w2.drew hnc om HUX.out HTX.out).mono ?_;rintro e w' ⟨rfl,rfl⟩)
     | (go_at_call_of 136 (ao D m d);refine(fR D m d B ys w2.drew hmd om HUY.out HTY.out).mono ?_;rintro e w' ⟨rfl,rfl⟩)
     | (go_at_call 195;refine(im A D n m c d B xs ys w2.drew om om HUX.out HUY.out HTX.out HTY.out).mono ?_;rintro e w3 ⟨rfl,hst⟩;rw[Hcm.out];have hB3:Below (w.heap.size+2) W w3:=HB2.out.drew.trans (hst.below _);clear hst))
   go_wp2;go_ret;exact⟨by rw[<-HR.out];first|rfl|(simp;first|done|exact Dz om om),HB0.out.trans (hB3.mono om)⟩
 .have HR:=ab (HZ.out.2 hgt);have hn:¬p<q:=om
  go_wp2;go_ret;exact⟨by rw[HR.out];rfl,HB0.out.trans (HB2.out.mono om)⟩
def gU(z:Int):Prop:=-9223372036854775808<=z/\z<=9223372036854775807
def KZ(va:Value)(za:Int)(B:Nat)(w:World)(hB:B<=w.heap.size)(ha:eC w B va za)(hz:gU za) :
  Calls ak 84 #[va] w fun e w'=>e=.returned (.tuple #[.int .i64 za,.bool true])/\Below w.heap.size w w':=by
 obtain⟨s1,A,n,c,xs,rfl,hnc,hx,tx,rfl⟩:=ha;obtain⟨hz1,hz2⟩:=hz;have hn:n<=2:=by
  rw[aD hx tx];refine jR.2 ?_;have:(sg s1 (bC xs)).natAbs=bC xs:=fJ s1 (bC xs);omega
 have hb0:=(bG w.heap.size w).alloc (ag _) (Obj.cells #[au s1,ao A n c] 50);have HU:=ab (hx.below hb0 hB);have HX:=ab hx;clear hx;have HTX:=ab tx;clear tx;have HB:=ab hb0;clear hb0
 cases s1
 .have hv:(sg false (bC xs))=(bC xs:Int):=by simp[sg]
  rw[hv]at hz1 hz2 ⊢;clear hv;generalize hvv:bC xs=v at hz1 hz2 ⊢;have HV:=ab hvv;clear hvv
  go_enter Jx,Es
  go_wp2_with fail
  refine(fR A n c B xs _ hnc om HU.out HTX.out).mono ?_;rintro e w' ⟨rfl,rfl⟩
  go_wp2_with fail
  refine(mn A n c B xs _ hn HU.out).mono ?_;rintro e w' ⟨rfl,rfl⟩;rw[HV.out];have hw:IntKind.i64.wrap (v:Int)=v:=Dz om om;have hl:(v:Int)<9223372036854775808:=om
  have Hz1:=ab hz1;clear hz1;have Hz2:=ab hz2;clear hz2;go_wp2;go_ret2;exact⟨rfl,HB.out⟩
 .have hv:(sg true (bC xs))=-(bC xs:Int):=by simp[sg]
  rw[hv]at hz1 hz2 ⊢;clear hv;generalize hvv:bC xs=v at hz1 hz2 ⊢;have HV:=ab hvv;clear hvv
  go_enter Jx,Es
  go_wp2_with fail
  refine(fR A n c B xs _ hnc om HU.out HTX.out).mono ?_;rintro e w' ⟨rfl,rfl⟩
  go_wp2_with fail
  refine(mn A n c B xs _ hn HU.out).mono ?_;rintro e w' ⟨rfl,rfl⟩;rw[HV.out];have hw:IntKind.i64.wrap (IntKind.u64.wrap (-(v:Int)))=-(v:Int):=by rw[ci,pU];omega
  have hl:(v:Int)<=9223372036854775808:=om
  have Hz1:=ab hz1;clear hz1;have Hz2:=ab hz2;clear hz2;go_wp2;go_ret2;exact⟨rfl,HB.out⟩

def CT(ps:List Nat)(k v:Nat)(h:k<ps.length):bC (ps.set k v)+ps.getD k 0*4294967296^k=bC ps+v*4294967296^k:=by
 induction ps generalizing k with
 | nil=>simp at h
 | cons a l ih =>
  cases k with
  | zero=>simp[bC];omega
  | succ k =>
   have b:=ih k (by simpa using h)
   simp only[List.set_cons_succ,bC,bJ,bZ]
   grind
def mX.set(h:mX l)(k:Nat){x:Nat}(b:x<4294967296):mX (l.set k x):=by
 intro y c;rcases List.mem_or_eq_of_mem_set c with a|a
 .exact h y a
 .rw[a];exact b
structure sU(P0 ps ys:List Nat)(x i j car:Nat):Prop where
 len:ps.length=P0.length
 lim:mX ps
 rest:∀k,i+j<=k->ps.getD k 0=P0.getD k 0
 eq:bC ps+car*4294967296^(i+j)=bC P0+x*bC (ys.take j)*4294967296^i
 car:car<4294967296
def fU{v:Nat}(h:k≠j):(l.set k v).getD j 0=l.getD j 0:=by
 simp[df,List.getElem?_set_ne h]
def ob(a:x<4294967296)(b:y<4294967296):x*y<=18446744065119617025:=aX (om:x<=4294967295) (om:y<=4294967295)
def sU.step(h:sU P0 ps ys x i j car)(c:j<ys.length)(a:i+j<ps.length)(d:ys.getD j 0=y)(e:ps.getD (i+j) 0=p)(f:x<4294967296)(g:y<4294967296)(n:p<4294967296) :
  sU P0 (ps.set (i+j) ((car+(x*y+p))%4294967296)) ys x i (j+1) ((car+(x*y+p))/4294967296):=by
 have l:=ob f g;have o:=h.car;refine⟨by simp[h.len],h.lim.set _ (di _ om),fun k q=>?_,?_,?_⟩
 .rw[fU om];exact h.rest k om
 .have b:=CT ps (i+j) ((car+(x*y+p))%4294967296) a;rw[dZ ys j c,d,show i+(j+1)=(i+j)+1 from by omega,bZ]
  rw[e]at b;have m:=h.eq;have r:=cW (car+(x*y+p)) 4294967296;rw[fD]at b m ⊢;generalize (car+(x*y+p))%4294967296=lo at *;generalize (car+(x*y+p))/4294967296=hi at *;generalize (4294967296:Nat)^i=bi at *;generalize (4294967296:Nat)^j=bj at *;generalize bC (ps.set (i+j) lo)=vs' at *;generalize bC ps=vs at *;generalize bC P0=v0 at *;generalize bC (ys.take j)=vt at *
  grind
 .omega
def sU.last(h:sU P0 ps ys x i m car)(e:ys.length=m)(a:i+m<ps.length)(b:P0.getD (i+m) 0=0) :
  bC (ps.set (i+m) car)=bC P0+x*bC ys*4294967296^i:=by
 have c:=CT ps (i+m) car a;rw[h.rest _ (ag _),b]at c;have d:=h.eq;rw[bS om]at d;omega
structure kK(ps xs ys:List Nat)(i:Nat):Prop where
 len:ps.length=xs.length+ys.length
 lim:mX ps
 rest:∀k,i+ys.length<=k->ps.getD k 0=0
 eq:bC ps=bC (xs.take i)*bC ys
def kK.zero(h:kK ps xs ys i)(a:i<xs.length)(b:xs.getD i 0=0):kK ps xs ys (i+1) :=
 ⟨h.len,h.lim,fun k c=>h.rest k om,by rw[dZ xs i a,b,h.eq];simp⟩
def kK.start(h:kK ps xs ys i):sU ps ps ys x i 0 0 :=
 ⟨rfl,h.lim,fun _ _=>rfl,by simp[bC],om⟩
def kK.next(h:kK P0 xs ys i)(k:sU P0 ps ys x i m car)(a:ys.length=m)(b:i<xs.length)(c:xs.getD i 0=x):kK (ps.set (i+m) car) xs ys (i+1):=by
 have d:ps.length=xs.length+m:=by rw[k.len,h.len,a]
 have e:=k.last a om (h.rest _ om);refine⟨by simp[d,a],k.lim.set _ k.car,fun j f=>?_,?_⟩
 .rw[fU om,k.rest j om];exact h.rest j om
 .rw[e,h.eq,dZ xs i b,c];grind
def kK.init(xs ys:List Nat)(n:Nat)(h:n=xs.length+ys.length):kK (cp n 0) xs ys 0 :=
 ⟨by simp[h],by intro x a;rw[(SX.1 a).2];omega,fun k _=>by simp[df,PR];split<;>rfl,by
  have:bC (cp n 0)=0:=by
   clear h
   induction n with
   | zero=>rfl
   | succ n ih=>simp[kc,bC,ih]
  rw[this];simp[bC]⟩
def iD(w wr:World)(ps:List Nat):Prop:=Below w.heap.size w wr/\fX wr w.heap.size 136 (dI ps 0)
def Bq(zs:List Nat)(k x:Nat):(dI zs 0).setIfInBounds k (.int .u32 x)=dI (zs.set k x) 0:=by
 simp[dI,List.map_set]
def iD.put(h:iD w wr ps)(k x:Nat):iD w (wr.setCell ⟨w.heap.size,k,none⟩ (.int .u32 x)) (ps.set k x):=by
 refine⟨h.1.setCell (ag _) _,?_⟩;have:=h.2.set_ k (.int .u32 x)
 rwa [Bq]at this
def iD.at_(h:iD w wr ps)(k:Nat)(a:k<ps.length):wr.cell? ⟨w.heap.size,k,none⟩=some (.int .u32 (ps.getD k 0))/\wr.frozen? ⟨w.heap.size,k,none⟩=false :=
 ⟨(h.2.cell k).trans (by rw[mh ps 0 k om];simp),h.2.frozen k⟩
def iD.start(w:World)(n:Nat):iD w (w.alloc (.cells (dI [] n) 136)) (cp n 0) :=
 ⟨(bG _ _).alloc (ag _) _,by simpa [dI]using fX.new w 136 (dI [] n)⟩
def GT(A B:Option Addr)(n m c d L:Nat)(xs ys:List Nat)(w:World)(hn:n<=268435456)(hm:m<=268435456)(hnm:¬(n<=1/\m<=1))(hL:L<=w.heap.size)(hx:cE w L A n xs)(hy:cE w L B m ys) :
  Calls ak 140 #[.slice A n c,.slice B m d] w (qH w (bC xs*bC ys)):=by
 have hmk:=Dt (n+m) om;rw[ef]at hmk;have HX:=ab hx;clear hx;have HY:=ab hy;clear hy;have h12:1<n∨n<=1/\1<m:=om
 clear hnm;rcases h12 with h1|⟨h1,h2⟩
 .have h1i:¬(n:Int)<=1:=om
  have h1j:decide ((n:Int)<=1)=false:=by simpa using h1i
  go_enter func140,TB
  go_wp2;clear hmk
  go_loopw [34] (fun iv wr=>∃(i:Nat) (ps:List Nat),i<=n/\iv=.int .i64 i/\Hid (iD w wr ps)/\Hid (kK ps xs ys i)) (fun iv _=>n-(intOf iv).toNat)
  case atStart=>exact⟨0,_,om,rfl,ab (iD.start w (n+m)),ab (kK.init xs ys (n+m) (by rw[HX.out.1,HY.out.1]))⟩
  case round =>
   obtain⟨i,ps,hi,rfl,HF,HS⟩:=hrel;by_cases hin:i<n
   .obtain⟨ad,x,rfl,hab,hxx,hx4,hcx⟩:=(HX.out.below HF.out.1 hL).at_ (k:=i) om;have HXX:=ab hxx;clear hxx;have hin':(i:Int)<n:=om
    have hi0:(0:Int)<=i:=om
    by_cases hx0:x=0
    .subst hx0;go_wp2
     go_roundw
     case rel=>exact⟨i+1,ps,om,by go_num,HF,ab (HS.out.zero (by rw[HX.out.1];exact hin) HXX.out)⟩
     case measure=>simp[intOf];omega
    .have hx0':((x:Int)==0)=false:=by simp;omega
     go_wp2;rw[show i+m+1-i=m+1 from by omega]
     go_loopw [9,51] (fun cv jv wr'=>∃(j car:Nat) (qs:List Nat),j<=m/\jv=.int .i64 j/\cv=.int .u64 car/\car<4294967296/\Hid (iD w wr' qs)/\Hid (sU ps qs ys x i j car)) (fun _ jv _=>m-(intOf jv).toNat)
     case atStart=>exact⟨0,0,ps,om,rfl,rfl,om,HF,ab HS.out.start⟩
     case round =>
      clear HF hcx;obtain⟨j,car,qs,hj,rfl,rfl,hcar,HG,HI⟩:=hrel;have hql:qs.length=n+m:=by rw[HI.out.len,HS.out.len,HX.out.1,HY.out.1]
      by_cases hjm:j<m
      .obtain⟨bd,y,rfl,hbb,hyy,hy4,hcy⟩:=(HY.out.below HG.out.1 hL).at_ (k:=j) om;have HYY:=ab hyy;clear hyy;obtain⟨hcp,hfp⟩:=HG.out.at_ (i+j) om;have hp4:=HI.out.lim.getD (i+j);generalize hpp:qs.getD (i+j) 0=p at hcp hp4;have HPP:=ab hpp;clear hpp;obtain⟨z,hz,hz4⟩:∃z:Nat,x*y=z/\z<=18446744065119617025:=⟨_,rfl,ob hx4 hy4⟩;have hzi:(x:Int)*(y:Int)=(z:Int):=by rw[<-hz];simp
       have HZ:=ab hz;clear hz;have hjm':(j:Int)<m:=om
       have hjm2:(j:Int)<m+1:=om
       have hj0:(0:Int)<=j:=om
       go_wp2
       go_roundw
       case rel =>
        have h5:=HI.out.step (by rw[HY.out.1];exact hjm) om HYY.out HPP.out hx4 hy4 hp4
        have h6:=HG.out.put (i+j) ((car+(x*y+p))%4294967296);rw[HZ.out]at h5 h6;exact⟨j+1,(car+(z+p))/4294967296,_,om,by go_num,by go_num,om,ab (by simpa using h6),ab h5⟩
       case measure=>simp[intOf];omega
      .obtain rfl:j=m:=om
       obtain⟨hcp,hfp⟩:=HG.out.at_ (i+j) om;have HN:=ab (HS.out.next HI.out HY.out.1 (by rw[HX.out.1];exact hin) HXX.out)
       have HP:=ab (HG.out.put (i+j) car);have hjm2:(j:Int)<j+1:=om
       have hj0:(0:Int)<=j:=om
       go_wp2
       go_roundw
       case rel=>exact⟨i+1,_,om,by go_num,ab (by simpa using HP.out),HN⟩
       case measure=>simp[intOf];omega
   .obtain rfl:i=n:=om
    go_wp2_with fail
    have hl:=HS.out.len;rw[HX.out.1,HY.out.1]at hl;have hU:=cE.ofBlk HF.out.2 HS.out.lim HF.out.2.lt rfl;rw[hl]at hU;have hv:=HS.out.eq;rw[bS (by rw[HX.out.1];exact ag _)]at hv
    have HB:=ab HF.out.1;have HU:=ab hU;clear hU;have HV:=ab hv;clear hv;refine(kM _ _ _ _ _ _ (ag _) om HU.out).mono ?_;rintro e w' ⟨⟨r,hr,rfl,hU2,hT,hv2⟩,rfl⟩;have HU2:=ab hU2;clear hU2;have HV2:=ab hv2;clear hv2;go_wp2;go_ret;exact⟨_,_,_,_,rfl,hr,HU2.out,hT,HV2.out.trans HV.out,HB.out⟩
 .have h1i:(n:Int)<=1:=om
  have h1j:decide ((n:Int)<=1)=true:=by simpa using h1i
  have h2i:¬(m:Int)<=1:=om
  have h2j:decide ((m:Int)<=1)=false:=by simpa using h2i
  go_enter func140,TB
  go_wp2;clear hmk
  go_loopw [34] (fun iv wr=>∃(i:Nat) (ps:List Nat),i<=n/\iv=.int .i64 i/\Hid (iD w wr ps)/\Hid (kK ps xs ys i)) (fun iv _=>n-(intOf iv).toNat)
  case atStart=>exact⟨0,_,om,rfl,ab (iD.start w (n+m)),ab (kK.init xs ys (n+m) (by rw[HX.out.1,HY.out.1]))⟩
  case round =>
   obtain⟨i,ps,hi,rfl,HF,HS⟩:=hrel;by_cases hin:i<n
   .obtain⟨ad,x,rfl,hab,hxx,hx4,hcx⟩:=(HX.out.below HF.out.1 hL).at_ (k:=i) om;have HXX:=ab hxx;clear hxx;have hin':(i:Int)<n:=om
    have hi0:(0:Int)<=i:=om
    by_cases hx0:x=0
    .subst hx0;go_wp2
     go_roundw
     case rel=>exact⟨i+1,ps,om,by go_num,HF,ab (HS.out.zero (by rw[HX.out.1];exact hin) HXX.out)⟩
     case measure=>simp[intOf];omega
    .have hx0':((x:Int)==0)=false:=by simp;omega
     go_wp2;rw[show i+m+1-i=m+1 from by omega]
     go_loopw [9,51] (fun cv jv wr'=>∃(j car:Nat) (qs:List Nat),j<=m/\jv=.int .i64 j/\cv=.int .u64 car/\car<4294967296/\Hid (iD w wr' qs)/\Hid (sU ps qs ys x i j car)) (fun _ jv _=>m-(intOf jv).toNat)
     case atStart=>exact⟨0,0,ps,om,rfl,rfl,om,HF,ab HS.out.start⟩
     case round =>
      clear HF hcx;obtain⟨j,car,qs,hj,rfl,rfl,hcar,HG,HI⟩:=hrel;have hql:qs.length=n+m:=by rw[HI.out.len,HS.out.len,HX.out.1,HY.out.1]
      by_cases hjm:j<m
      .obtain⟨bd,y,rfl,hbb,hyy,hy4,hcy⟩:=(HY.out.below HG.out.1 hL).at_ (k:=j) om;have HYY:=ab hyy;clear hyy;obtain⟨hcp,hfp⟩:=HG.out.at_ (i+j) om;have hp4:=HI.out.lim.getD (i+j);generalize hpp:qs.getD (i+j) 0=p at hcp hp4;have HPP:=ab hpp;clear hpp;obtain⟨z,hz,hz4⟩:∃z:Nat,x*y=z/\z<=18446744065119617025:=⟨_,rfl,ob hx4 hy4⟩;have hzi:(x:Int)*(y:Int)=(z:Int):=by rw[<-hz];simp
       have HZ:=ab hz;clear hz;have hjm':(j:Int)<m:=om
       have hjm2:(j:Int)<m+1:=om
       have hj0:(0:Int)<=j:=om
       go_wp2
       go_roundw
       case rel =>
        have h5:=HI.out.step (by rw[HY.out.1];exact hjm) om HYY.out HPP.out hx4 hy4 hp4
        have h6:=HG.out.put (i+j) ((car+(x*y+p))%4294967296);rw[HZ.out]at h5 h6;exact⟨j+1,(car+(z+p))/4294967296,_,om,by go_num,by go_num,om,ab (by simpa using h6),ab h5⟩
       case measure=>simp[intOf];omega
      .obtain rfl:j=m:=om
       obtain⟨hcp,hfp⟩:=HG.out.at_ (i+j) om;have HN:=ab (HS.out.next HI.out HY.out.1 (by rw[HX.out.1];exact hin) HXX.out)
       have HP:=ab (HG.out.put (i+j) car);have hjm2:(j:Int)<j+1:=om
       have hj0:(0:Int)<=j:=om
       go_wp2
       go_roundw
       case rel=>exact⟨i+1,_,om,by go_num,ab (by simpa using HP.out),HN⟩
       case measure=>simp[intOf];omega
   .obtain rfl:i=n:=om
    go_wp2_with fail
    have hl:=HS.out.len;rw[HX.out.1,HY.out.1]at hl;have hU:=cE.ofBlk HF.out.2 HS.out.lim HF.out.2.lt rfl;rw[hl]at hU;have hv:=HS.out.eq;rw[bS (by rw[HX.out.1];exact ag _)]at hv
    have HB:=ab HF.out.1;have HU:=ab hU;clear hU;have HV:=ab hv;clear hv;refine(kM _ _ _ _ _ _ (ag _) om HU.out).mono ?_;rintro e w' ⟨⟨r,hr,rfl,hU2,hT,hv2⟩,rfl⟩;have HU2:=ab hU2;clear hU2;have HV2:=ab hv2;clear hv2;go_wp2;go_ret;exact⟨_,_,_,_,rfl,hr,HU2.out,hT,HV2.out.trans HV.out,HB.out⟩
def Ds(A B:Option Addr)(n m c d L:Nat)(xs ys:List Nat)(w:World)(hn:n<=1)(hm:m<=1)(hx:cE w L A n xs)(hy:cE w L B m ys) :
  Calls ak 140 #[.slice A n c,.slice B m d] w (qH w (bC xs*bC ys)):=by
 have hx4:bC xs<4294967296:=by
  have h:=ju hx.2.1;rw[hx.1]at h;have h2:(4294967296:Nat)^n<=4294967296^1:=cu om hn;omega
 have hy4:bC ys<4294967296:=by
  have h:=ju hy.2.1;rw[hy.1]at h;have h2:(4294967296:Nat)^m<=4294967296^1:=cu om hm;omega
 have HX:=ab hx;clear hx;have HY:=ab hy;clear hy;have h1i:(n:Int)<=1:=om
 have h2i:(m:Int)<=1:=om
 obtain⟨z,hz,hz4⟩:∃z:Nat,bC xs*bC ys=z/\z<=18446744065119617025:=⟨_,rfl,ob hx4 hy4⟩;generalize hvx:bC xs=x at hz hx4;generalize hvy:bC ys=y at hz hy4;have hzi:(x:Int)*(y:Int)=(z:Int):=by rw[<-hz];simp
 have HVX:=ab hvx;clear hvx;have HVY:=ab hvy;clear hvy;rw[hz];have HZ:=ab hz;clear hz
 go_enter func140,TB
 go_wp2_with fail
 refine(mn A n c L xs _ om HX.out).mono ?_;rintro e w' ⟨rfl,rfl⟩;rw[HVX.out]
 go_wp2_with fail
 refine(mn B m d L ys _ om HY.out).mono ?_;rintro e w' ⟨rfl,rfl⟩;rw[HVY.out]
 go_wp2_with fail
 refine(kA z _ om).mono ?_;rintro e w1 ⟨A1,k,c1,zs,rfl,hk,hU,hT,hv,hb1⟩;have HU:=ab hU;clear hU;have HV:=ab hv;clear hv;have HB:=ab hb1;clear hb1;go_wp2;go_ret;exact⟨_,_,_,_,rfl,hk,HU.out,hT,HV.out,HB.out⟩
def GU(A B:Option Addr)(n m c d L:Nat)(xs ys:List Nat)(w:World)(e:n<=268435456)(f:m<=268435456)(g:L<=w.heap.size)(a:cE w L A n xs)(b:cE w L B m ys) :
  Calls ak 140 #[.slice A n c,.slice B m d] w (qH w (bC xs*bC ys)):=by
 by_cases h:n<=1/\m<=1
 .exact Ds A B n m c d L xs ys w h.1 h.2 a b
 .exact GT A B n m c d L xs ys w e f h g a b
def LE(s1 c:Bool)(a b:Nat):sg (s1 != c) (a*b)=sg s1 a*sg c b:=by
 cases s1<;>cases c<;>simp[sg]<;>grind
def PO(va vb:Value)(za zb:Int)(B:Nat)(w:World)(hB:B<=w.heap.size)(ha:eC w B va za)(hb:eC w B vb zb)(sa:nl za.natAbs<=268435456)(sb:nl zb.natAbs<=268435456) :
  Calls ak 83 #[va,vb] w (dJ w (za*zb)):=by
 obtain⟨s1,A,n,c,xs,rfl,hnc,hx,tx,rfl⟩:=ha;obtain⟨s2,D,m,d,ys,rfl,hmd,hy,ty,rfl⟩:=hb;rw[fJ,<-aD hx tx]at sa;rw[fJ,<-aD hy ty]at sb;have HX:=ab hx;clear hx;have HY:=ab hy;clear hy;have HTX:=ab tx;clear tx;have HTY:=ab ty;clear ty
 go_enter func83,ntmps83
 go_wp2;obtain⟨hb0,k1,k2,k3⟩:=AD w #[au s1,ao A n c] #[au s2,ao D m d] #[au false,ao none 0 0];generalize (((w.alloc (Obj.cells #[au s1,ao A n c] 50)).alloc (Obj.cells #[au s2,ao D m d] 50)).alloc (Obj.cells #[au false,ao none 0 0] 50))=W at hb0 k1 k2 k3 ⊢;obtain⟨a0,a1⟩:=eW k1;obtain⟨b0,b1⟩:=eW k2;have HK3:=ab k3;clear k3 k1 k2;have HB0:=ab hb0;clear hb0;have hg2:w.heap.size+2<W.heap.size:=HK3.out.lt;have HS:=ab (show ∀w1,Below (w.heap.size+2) W w1->(w1.cell? ⟨w.heap.size,0,none⟩=some (.bool s1)/\w1.cell? ⟨w.heap.size,1,none⟩=some (.slice A n c)/\w1.cell? ⟨w.heap.size+1,0,none⟩=some (.bool s2)/\w1.cell? ⟨w.heap.size+1,1,none⟩=some (.slice D m d)/\Below (w.heap.size+2) W w1)from
  fun w1 h=>⟨(h.cell (by show w.heap.size<_;omega)).trans a0,(h.cell (by show w.heap.size<_;omega)).trans a1,(h.cell (by show w.heap.size+1<_;omega)).trans b0,(h.cell (by show w.heap.size+1<_;omega)).trans b1,h⟩)
 have HUX:Hid (cE W.drew B A n xs):=ab (HX.out.below HB0.out.drew hB);have HUY:Hid (cE W.drew B D m ys):=ab (HY.out.below HB0.out.drew hB);have hkl:∀(k:Nat) (zs:List Nat) (w':World) (Bb:Nat) (A':Option Addr),cE w' Bb A' k zs->pg zs->bC zs=bC xs*bC ys->k<=536870912:=by
  intro k zs w' Bb A' hu ht hv;have h1:=aD hu ht;have h2:=Ra (bC xs) (bC ys);rw[<-aD HX.out HTX.out,<-aD HY.out HTY.out]at h2;rw[hv]at h1;omega
 have HKL:=ab hkl;clear hkl
 go_region_held3 (fun w'=>w'.cell? ⟨w.heap.size,0,none⟩=some (.bool s1)/\w'.cell? ⟨w.heap.size,1,none⟩=some (.slice A n c)/\w'.cell? ⟨w.heap.size+1,0,none⟩=some (.bool s2)/\w'.cell? ⟨w.heap.size+1,1,none⟩=some (.slice D m d)/\Below (w.heap.size+2) W w')
  (first|exact HS.out _ (bG _ _).drew|assumption|exact HS.out _ (by assumption)|exact HS.out _ (ew (ew (by assumption) sm _) sm _))
  (first
   | (go_at_call_of 136 (ao A n c);refine(fR A n c B xs W.drew hnc om HUX.out HTX.out).mono ?_;rintro e w' ⟨rfl,rfl⟩)
   | (go_at_call_of 136 (ao D m d);refine(fR D m d B ys W.drew hmd om HUY.out HTY.out).mono ?_;rintro e w' ⟨rfl,rfl⟩)
   | (go_at_call 140;refine(GU A D n m c d B xs ys W.drew sa sb (by show B<=W.heap.size;omega) HUX.out HUY.out).mono ?_;rintro e w1 ⟨A1,k,c1,zs,rfl,hk1,hU1,hT1,hv1,hbn1⟩;have hk2:=HKL.out _ _ _ _ _ hU1 hT1 hv1;have HU1:=ab hU1;clear hU1;have HT1:=ab hT1;clear hT1;have HV1:=ab hv1;clear hv1;have hB1:Below (w.heap.size+2) W w1:=(bG _ W).drew.trans (hbn1.mono (by show _<=W.heap.size;omega));have HK2:=ab (fX.below (w:=W.drew) HK3.out hbn1 hg2);clear hbn1;have hsz:=HK2.out.lt)
   | (go_at_call 134;refine(gW (s1 != s2) A1 k c1 w1.heap.size zs w1 hk1 om (ag _) HU1.out HT1.out).mono ?_;rintro e w2 ⟨v,rfl,hI,hbn⟩;obtain⟨neg,A2,n2,c2,zs2,rfl,hI2⟩:=hI;have hB2:Below (w.heap.size+2) W w2:=hB1.trans (hbn.mono om);have HI:=ab hI2;clear hI2;have hk3:=HK2.out.below hbn hsz;obtain⟨e0,e1⟩:=eW hk3;have f0:=hk3.frozen 0;have f1:=hk3.frozen 1;have HK4:=ab hk3;clear hk3 hbn))
 go_wp2;exact cQ (v:=.agg #[.bool neg,.slice A2 n2 c2]) (by simp[results,results83,go_sem,e0,e1]) rfl
   (dJ.cell ⟨neg,A2,n2,c2,zs2,rfl,HI.out⟩ HK4.out (HB0.out.trans (hB2.mono om)) om (by rw[HV1.out,LE]))

def LA(B:Nat)(w wr:World)(g n:Nat)(ps:List Nat):Prop :=
 Below B w wr/\B<=g/\ps.length=n/\mX ps/\∃cs:Array Value,fX wr g 136 cs/\∀j,j<n->cs[j]? = some (.int .u32 (ps.getD j 0))
def LA.put(h:LA B w wr g n ps){k x:Nat}(p:k<n)(f:x<4294967296):LA B w (wr.setCell ⟨g,k,none⟩ (.int .u32 x)) g n (ps.set k x):=by
 obtain⟨i,b,c,l,cs,m,d⟩:=h;refine⟨i.setCell b _,b,by simpa using c,l.set k f,_,m.set_ k _,fun j a=>?_⟩
 by_cases e:j=k
 .subst e;have o:j<cs.size:=by
   rcases aB j cs.size with h|h
   .exact h
   .have:=d j a;rw[eo h]at this;cases this
  rw[iF o];simp[df,c,a]
 .rw[dM (ai e),d j a,fU (ai e)]
def LA.at_(h:LA B w wr g n ps){k:Nat}(b:k<n):wr.cell? ⟨g,k,none⟩=some (.int .u32 (ps.getD k 0))/\wr.frozen? ⟨g,k,none⟩=false:=by
 obtain⟨d,e,f,i,cs,a,c⟩:=h;exact⟨(a.cell k).trans (c k b),a.frozen k⟩
def LA.u32(h:LA B w wr g n ps):cE wr wr.heap.size (some ⟨g,0,none⟩) n ps:=by
 obtain⟨i,k,b,c,cs,a,d⟩:=h;refine⟨b,c,fun _=>⟨_,rfl,a.lt,fun j f=>?_⟩⟩;have e:(⟨g,0,none⟩:Addr).add j=⟨g,j,none⟩:=by unfold Addr.add;split<;>simp_all
 rw[e];exact(a.cell j).trans (d j f)
def Kr(ad:Addr)(n c B:Nat)(xs:List Nat)(w:World)(hn:0<n)(hm:n<=1073741824)(hB:B<=w.heap.size)(h:cE w B (some ad) n xs) :
  Calls ak 196 #[.slice (some ad) n c] w fun e w'=>∃g c',e=.returned (.slice (some ⟨g,0,none⟩) n c')/\n<=c'/\LA w.heap.size w w' g n xs:=by
 have HX:=ab h;clear h;have q48:∀(w:World) (a:Option Addr) (n c n' c':Nat),(binOp .eql 48 (.slice a n c) (.slice none n' c')).run ak w=.ok (.bool a.isNone) w:=fun w a n c n' c'=>AW w _ _ a n c n' c' fO
 go_enter func196,Tx
 go_wp2_with (at_builtin;refine qi _ rfl _ _ 48 rfl w.heap.size 136 Tryz.t136 (.int .u32 0) 1 4 fO G6 Gm GE Hs rfl om _ 0 [] rfl (Tw (e:=136) (size:=1) w #[] 0 (ag _) (by simp[maxLen]) rfl) ad n c (xs.map (fun x:Nat=>dx .u32 x)) rfl (by simp[HX.out.1]) (cE.cells (HX.out.below ((bG _ _).alloc hB _) (ag _))) (by intro u hu;simp only[ib]at hu;obtain⟨x,_,rfl⟩:=hu;rfl) (by simp[maxLen];omega) om sm ?_)
 intro v' w1 hown hgrow hnil hat;obtain⟨h1,h2⟩:=hown;have h1':xs.length=n:=by simpa using h1
 rcases h2 with⟨h,_⟩|⟨g,cap,cur,rfl,hbase,hg,hnc,_,hcs,htake⟩
 .exact absurd h hnil
 have HB:=(((bG w.heap.size w).alloc (ag _) (Obj.cells #[] 136)).trans (ku hgrow (B:=w.heap.size) sm (by intro g h;cases h;exact ag _)))
 have hla:LA w.heap.size w w1 g n xs:=by
  refine⟨HB,hbase,h1',HX.out.2.1,cur,hg,fun j hj=>?_⟩;have h7:(cur.toList.take (n*1))[j]? = (xs.map (fun x:Nat=>dx .u32 x))[j]?:=by rw[htake]
  rw[jW om,li,bE (l:=xs) om]at h7;rw[<-Array.getElem?_toList,h7];simp[df,bE (om:j<xs.length)]
 have HL:=ab hla;clear hla HB hg htake hgrow hnil hat h1 hbase;go_wp2;go_ret;exact⟨g,cap,rfl,om,HL.out⟩
def J3{rest:Nat}(d:rest<b)(f:xs.getD k 0=x)(g:x<4294967296)(a:k<xs.length)(h:bC zs*b+rest=bC (xs.drop (k+1))) :
  (rest*4294967296+x)/b<4294967296/\(rest*4294967296+x)%b<b/\bC ((rest*4294967296+x)/b::zs)*b+(rest*4294967296+x)%b=bC (xs.drop k):=by
 have c:0<b:=om
 refine⟨?_,di _ c,?_⟩
 .rw[ou c];have:(rest+1)*4294967296<=b*4294967296:=aq _ d;omega
 .have e:=cW (rest*4294967296+x) b;rw[sv a];have ex:xs[k]=x:=by simpa [df,bE a]using f
  rw[ex];simp only[bC];rw[<-h];generalize (rest*4294967296+x)/b=q at *;generalize (rest*4294967296+x)%b=r at *
  grind
structure DL(xs ps zs:List Nat)(k n rest b:Nat):Prop where
 len:xs.length=n
 kn:k<=n
 eq:ps=xs.take k++zs
 zl:zs.length=n-k
 lt:rest<b
 sum:bC zs*b+rest=bC (xs.drop k)
def DL.init(a:xs.length=n)(c:0<b):DL xs xs [] n n 0 b :=
 ⟨a,ag _,by simp[<-a],sm,c,by simp[<-a,bC]⟩
def DL.next{rest:Nat}(h:DL xs ps zs (k+1) n rest b)(f:mX xs)(g:ps.getD k 0=x) :
  DL xs (ps.set k ((rest*4294967296+x)/b)) ((rest*4294967296+x)/b::zs) k n ((rest*4294967296+x)%b) b/\(rest*4294967296+x)/b<4294967296/\x<4294967296:=by
 have i:=h.kn;have d:k<xs.length:=by have:=h.len;omega
 have a:xs.getD k 0=x:=by
  rw[<-g,h.eq];simp only[df];rw[fQ (by simp;omega),jW om]
 have c:x<4294967296:=by rw[<-a];exact f.getD k
 obtain⟨s1,l,o⟩:=J3 h.lt a c d h.sum;refine⟨⟨h.len,om,?_,by simp[h.zl];omega,l,o⟩,s1,c⟩
 rw[h.eq];generalize (rest*4294967296+x)/b=q;apply List.ext_getElem?;intro j;rw[List.getElem?_set];have p:(xs.take (k+1)++zs).length=n:=by simp[h.zl,h.len];omega
 by_cases e:k=j
 .subst e;rw[aj rfl,aj om,fF (by simp;omega)]
  simp[h.len];rw[it om];simp
 .rw[ah e];by_cases r:j<k
  .rw[fQ (by simp[h.len];omega),fQ (by simp[h.len];omega),jW om,jW om]
  .rw[fF (by simp[h.len];omega),fF (by simp[h.len];omega)]
   simp only[gN,h.len];rw[it om,it om];obtain⟨m,rfl⟩:∃m,j=k+1+m:=⟨j-(k+1),om⟩
   rw[(om:k+1+m-(k+1)=m),(om:k+1+m-k=m+1),dd]
def rc(c:a<4294967296)(b:x<4294967296):bits .or .u64 ((a:Int)*4294967296) (x:Int)=((a*4294967296+x:Nat):Int):=by
 have h:=yo (a*4294967296) x om om;rw[SJ,GO b,jM]at h;rw[<-h];rfl
def wN(B:Nat)(w0 w:World)(g n c b:Nat)(xs:List Nat)(hn:n<=1073741824)(hb:0<b)(hb4:b<4294967296)(h:LA B w0 w g n xs) :
  Calls ak 197 #[.slice (some ⟨g,0,none⟩) n c,.int .u32 b] w fun e w'=>∃ps,e=.returned (.int .u32 ((bC xs%b:Nat):Int))/\LA B w0 w' g n ps/\bC ps=bC xs/b:=by
 have HL:=ab h.2.2.2.1;have hxl:=h.2.2.1;have HI:=ab (DL.init hxl hb);have HA:=ab h;clear h
 go_enter func197,ntmps197
 go_wp2
 go_loopw [5,6] (fun rv iv wr=>∃(k rest:Nat) (ps zs:List Nat),k<=n/\iv=.int .i64 ((k:Int)-1)/\rv=.int .u64 rest/\rest<b/\Hid (LA B w0 wr g n ps)/\Hid (DL xs ps zs k n rest b)) (fun _ iv _=>(intOf iv+1).toNat)
 case atStart=>exact⟨n,0,xs,[],om,rfl,rfl,hb,HA,HI⟩
 case round =>
  clear HA HI;obtain⟨k,rest,ps,zs,hk,rfl,rfl,hrb,HA,HI⟩:=hrel;rcases bD k with h0|h0
  .subst h0;have hs:=HI.out.sum;have he:=HI.out.eq;simp only[Lj,xq,yY]at hs he;subst he;have hq:bC ps=bC xs/b/\rest=bC xs%b:=by
    have h1:bC xs=b*bC ps+rest:=by rw[aA];exact hs.symm
    rw[h1];exact⟨by rw[jH hb,ee hrb];rfl,by rw[kL,dT hrb]⟩
   obtain⟨hq1,hr1⟩:=hq;have HR:=ab hr1;clear hr1;go_wp2;go_ret;exact⟨ps,by rw[<-HR.out];go_num,HA.out,hq1⟩
  .obtain⟨m,rfl⟩:∃m,k=m+1:=⟨k-1,om⟩
   obtain⟨hc,hf⟩:=HA.out.at_ (k:=m) om;generalize hpx:ps.getD m 0=x at hc;obtain⟨hD,hq4,hx4⟩:=HI.out.next HL.out hpx;have HD:=ab hD;clear hD hpx;have HO:=ab (rc (om:rest<4294967296) hx4)
   have HP:=HA.out.put (k:=m) om hq4;have e1:((m+1:Nat):Int)-1=m:=om
   rw[e1];have hm0:(m:Int)≥0:=om
   have hmn:(m:Int)<n:=om
   have hq64:(rest*4294967296+x)/b<18446744073709551616:=om
   have E1:(bits .or .u64 ((rest:Int)*4294967296) (x:Int)).tmod b=(((rest*4294967296+x)%b:Nat):Int):=by
    rw[HO.out,aJ (cO _),lM]
   have E2:IntKind.u64.wrap ((bits .or .u64 ((rest:Int)*4294967296) (x:Int)).tdiv b)%4294967296=(((rest*4294967296+x)/b:Nat):Int):=by
    rw[HO.out,fG (cO _),<-lN,ci];generalize (rest*4294967296+x)/b=q at *;omega
   have HE1:=ab E1;clear E1;have HE2:=ab E2;clear E2;have hrb2:=HD.out.lt;clear hq4 hq64;have HP2:=ab HP;clear HP;go_wp2;refine⟨⟨m,_,_,_,om,rfl,?_,hrb2,ab (by rw[HE2.out];exact HP2.out),HD⟩,?_⟩
   .rw[HE1.out]
   .simp[intOf]

def nf(w:World)(u v:Nat)(e:Ending)(w':World):Prop :=
 ∃(A:Option Addr) (n c:Nat) (xs:List Nat) (D:Option Addr) (m d:Nat) (ys:List Nat),e=.returned (.tuple #[.slice A n c,.slice D m d])/\n<=c/\m<=d /\
  cE w' w'.heap.size A n xs/\cE w' w'.heap.size D m ys/\pg xs/\pg ys/\bC xs=u/\bC ys=v/\Below w.heap.size w w'
def Rb(w:World)(B:Nat)(A:Option Addr):cE w B A 0 []:=⟨rfl,by simp[mX],fun h=>absurd h om⟩
def zX:pg []:=by intro x a;simp at a
def Fu(A B:Option Addr)(n c d L:Nat)(xs ys:List Nat)(w:World)(hn:n<=536870912)(h2:2<n)(hL:L<=w.heap.size)(hx:cE w L A n xs)(hy:cE w L B 1 ys)(tx:pg xs)(ty:pg ys)
  (h0:0<bC ys) (hge:¬bC xs<bC ys) :
  Calls ak 137 #[.slice A n c,.slice B 1 d] w (nf w (bC xs/bC ys) (bC xs%bC ys)):=by
 have hc:0<=lg (bC xs) (bC ys):=by
  rcases aB (bC ys) (bC xs)with h|h
  .rw[kD h];omega
  .rw[lF om];omega
 obtain⟨ad,rfl,hadb,_⟩:=hx.2.2 om;obtain⟨bd,rfl,hbdb,hcb⟩:=hy.2.2 om;have hv1:bC ys=ys.getD 0 0:=by
  have:=hy.1
  match ys,this with
  | [y],_=>simp[bC]
 have hy4:=hy.2.1.getD 0;have hcb0:=hcb 0 om;rw[<-hv1]at hy4 hcb0;have HX:=ab hx;clear hx;have HY:=ab hy;clear hy;have HTX:=ab tx;clear tx;have HTY:=ab ty;clear ty;have HV1:=ab hv1;clear hv1;have HCB:=ab hcb0;clear hcb0;clear hcb hge;generalize hcm:lg (bC xs) (bC ys)=cm at hc;have Hcm:=ab hcm;clear hcm;generalize hvy:bC ys=y at h0 hy4 HCB ⊢;have HVY:=ab hvy;clear hvy;have hcn:¬cm<0:=om
 have hn2:¬(n:Int)<=2:=om
 have hn2':decide ((n:Int)<=2)=false:=by simpa using hn2
 go_enter Qw,Na
 go_wp2_with fail
 refine(im (some ad) (some bd) n 1 c d L xs ys w om om HX.out HY.out HTX.out HTY.out).mono ?_;rintro e w1 ⟨rfl,hst⟩;rw[Hcm.out];have HB1:=ab (hst.below w.heap.size);have hcell:w1.cell? (bd.add 0)=some (.int .u32 y):=(hst.cell _).trans HCB.out;clear hst;have HCC:=ab hcell;clear hcell;have HY1:=ab (HY.out.below HB1.out hL)
 go_wp2_with fail
 refine(Kr ad n c L xs w1 om om (by have:=HB1.out.size;omega) (HX.out.below HB1.out hL)).mono ?_
 rintro e w2 ⟨g,c',rfl,hc',hla⟩;have hcell2:w2.cell? (bd.add 0)=some (.int .u32 y):=by
  obtain⟨ad',e1,_,h5⟩:=(HY1.out.below (hla.1) (by have:=HB1.out.size;omega)).2.2 om
  cases e1
  have:=h5 0 om;rw[this];congr 2;have h6:=HY1.out.2.2 om;obtain⟨ad'',e2,_,h7⟩:=h6
  cases e2
  have h8:=h7 0 om;rw[HCC.out]at h8;cases h8;rfl
 have HLA:=ab hla;clear hla;have hb0:bd.add 0=bd:=by unfold Addr.add;simp
 rw[hb0]at hcell2
 go_wp2_with fail
 refine(wN w1.heap.size w1 w2 g n c' y xs om h0 hy4 HLA.out).mono ?_;rintro e w3 ⟨ps,rfl,hla3,hvp⟩;have HLA3:=ab hla3;clear hla3;have HVP:=ab hvp;clear hvp;have hr4:bC xs%y<4294967296:=Nat.lt_trans (di _ h0) hy4;generalize hrr:bC xs%y=r at hr4 ⊢;have HRR:=ab hrr;clear hrr
 go_wp2_with fail
 refine(kM _ _ _ _ _ _ hc' om HLA3.out.u32).mono ?_;rintro e w' ⟨⟨k,hk,rfl,hU2,hT,hv2⟩,rfl⟩;have HU2:=ab hU2;clear hU2;have HT:=ab hT;clear hT;have HV2:=ab hv2;clear hv2
 go_wp2_with fail
 refine(kA r w3 om).mono ?_;rintro e w4 ⟨A2,k2,c2,rs,rfl,hk2,hU3,hT3,hv3,hb3⟩;have HU3:=ab hU3;clear hU3;have HT3:=ab hT3;clear hT3;have HV3:=ab hv3;clear hv3;have HB3:=ab hb3;clear hb3;go_wp2;go_ret2;exact⟨_,k,c',_,A2,k2,c2,rs,rfl,om,hk2,(HU2.out.below HB3.out (ag _)).more HB3.out.size,HU3.out,HT.out,HT3.out,HV2.out.trans HVP.out,HV3.out.trans HRR.out.symm,(HB1.out.trans (HLA3.out.1.mono HB1.out.size)).trans (HB3.out.mono (bQ HB1.out.size HLA3.out.1.size))⟩
def At(A B:Option Addr)(n m c d L:Nat)(xs ys:List Nat)(w:World)(hn:n<=536870912)(hm:m<=536870912)(hL:L<=w.heap.size)(hx:cE w L A n xs)(hy:cE w L B m ys)(tx:pg xs)(ty:pg ys)
  (h0:0<bC ys) (hs:bC xs<bC ys∨n<=2∨m<=1) :
  Calls ak 137 #[.slice A n c,.slice B m d] w (nf w (bC xs/bC ys) (bC xs%bC ys)):=by
 by_cases hlt:bC xs<bC ys
 .have hq:=ee hlt;have hr:=dT hlt;rw[hq,hr];have HX:=ab hx;clear hx;have HY:=ab hy;clear hy;have HTX:=ab tx;clear tx;have HTY:=ab ty;clear ty;have Hc:=ab (lE hlt);clear hq hr hlt h0 hs
  go_enter Qw,Na
  go_wp2_with fail
  refine(im A B n m c d L xs ys w om om HX.out HY.out HTX.out HTY.out).mono ?_;rintro e w1 ⟨rfl,hst⟩;rw[Hc.out];have HB1:=ab (hst.below w.heap.size);clear hst
  go_wp2_with fail
  refine(wQ A n c L xs w1 om (by have:=HB1.out.size;omega) (HX.out.below HB1.out hL)).mono ?_
  rintro e w2 ⟨A',c',rfl,hc',hU,hb⟩;have HU:=ab hU;clear hU;have HB:=ab (HB1.out.trans (hb.mono HB1.out.size));clear hb;go_wp2;go_ret2;exact⟨none,0,0,[],A',n,c',xs,rfl,ag _,hc',Rb _ _ _,HU.out,zX,HTX.out,rfl,rfl,HB.out⟩
 .by_cases hn2:n<=2
  rotate_left
  .obtain rfl:m=1:=by
    have:m≠0:=by
     rintro rfl;have h1:=aD hy ty;have:=jR.1 (om:nl (bC ys)<=0)
     simp at this;omega
    omega
   exact Fu A B n c d L xs ys w hn om hL hx hy tx ty h0 hlt
  have hm2:m<=2:=by
   have h1:=fM (om:bC ys<=bC xs)
   rw[<-aD hx tx,<-aD hy ty]at h1;omega
  have hc:0<=lg (bC xs) (bC ys):=by
   rcases aB (bC ys) (bC xs)with h|h
   .rw[kD h];omega
   .rw[lF om];omega
  have hc2:=(qC (bC xs) (bC ys)).2;have hx4:bC xs<18446744073709551616:=by
   have h:=ju hx.2.1;rw[hx.1]at h;have h2:(4294967296:Nat)^n<=4294967296^2:=cu om hn2;omega
  have hy4:bC ys<18446744073709551616:=by
   have h:=ju hy.2.1;rw[hy.1]at h;have h2:(4294967296:Nat)^m<=4294967296^2:=cu om hm2;omega
  have HX:=ab hx;clear hx;have HY:=ab hy;clear hy;have HTX:=ab tx;clear tx;have HTY:=ab ty;clear ty;generalize hcm:lg (bC xs) (bC ys)=cm at hc hc2;generalize hvx:bC xs=x at hlt hx4 h0 ⊢;generalize hvy:bC ys=y at hlt hy4 h0 ⊢;have HVX:=ab hvx;clear hvx;have HVY:=ab hvy;clear hvy;have Hcm:=ab hcm;clear hcm;clear hs hlt;have hn2i:(n:Int)<=2:=om
  have hcn:¬cm<0:=om
  have hy0:(y:Int)≠0:=om
  have hyn:y≠0:=om
  have hqle:x/y<=x:=gG x y;have hrlt:x%y<y:=di x h0;have Hq:Hid (IntKind.u64.wrap ((x:Int)/(y:Int))=((x/y:Nat):Int)):=ab (by rw[ci,<-lN];exact dv (cO _) om)
  have Hr:Hid ((x:Int)%(y:Int)=((x%y:Nat):Int)):=ab sm
  have Hr2:Hid ((x:Int).tmod (y:Int)=((x%y:Nat):Int)):=ab (by rw[aJ (cO _)];simp)
  generalize x/y=q at hqle Hq ⊢;generalize x%y=r at hrlt Hr Hr2 ⊢
  go_enter Qw,Na
  go_wp2_with fail
  refine(im A B n m c d L xs ys w om om HX.out HY.out HTX.out HTY.out).mono ?_;rintro e w1 ⟨rfl,hst⟩;rw[Hcm.out];have HB1:=ab (hst.below w.heap.size);clear hst
  go_wp2_with fail
  refine(mn A n c L xs _ om (HX.out.below HB1.out hL)).mono ?_;rintro e w' ⟨rfl,rfl⟩;rw[HVX.out]
  go_wp2_with fail
  refine(mn B m d L ys _ om (HY.out.below HB1.out hL)).mono ?_;rintro e w' ⟨rfl,rfl⟩;rw[HVY.out];go_wp2;have HQ:=ab HB1.out.drew
  go_region_held3 (fun w'=>Below w.heap.size w w')
   (first|assumption|exact HQ.out)
   (first
    | (go_at_call 135;rw[Hq.out];refine(kA q w1.drew om).mono ?_;rintro e w2 ⟨A1,k1,c1,qs,rfl,hk1,hU1,hT1,hv1,hb1⟩;have HU1:=ab hU1;clear hU1;have HT1:=ab hT1;clear hT1;have HV1:=ab hv1;clear hv1;have hB2:Below w.heap.size w w2:=HQ.out.trans (hb1.mono HQ.out.size);clear hb1)
    | (go_at_call 135;(first|rw[Hr.out]|rw[Hr2.out]);refine(kA r w2 om).mono ?_;rintro e w3 ⟨A2,k2,c2,rs,rfl,hk2,hU2,hT2,hv2,hb2⟩;have HU2:=ab hU2;clear hU2;have HT2:=ab hT2;clear hT2;have HV2:=ab hv2;clear hv2;have hB3:Below w.heap.size w w3:=hB2.trans (hb2.mono hB2.size);have HB3:=ab hb2;clear hb2))
  all_goals (try go_wp2)
  all_goals go_ret2
  all_goals exact⟨A1,k1,c1,qs,A2,k2,c2,rs,rfl,hk1,hk2,(HU1.out.below HB3.out (ag _)).more HB3.out.size,HU2.out,HT1.out,HT2.out,HV1.out,HV2.out,hB3⟩
def fX.other{g':Nat}{cs:Array Value}(h:fX w g t cs)(a:g≠g'):fX (w.setCell ⟨g',i,none⟩ u) g t cs :=
 (NL w ⟨g',i,none⟩ u g a).trans h
def RB(w:World)(a b c d:Array Value) :
  Below w.heap.size w ((((w.alloc (.cells a 50)).alloc (.cells b 50)).alloc (.cells c 50)).alloc (.cells d 50))/\fX ((((w.alloc (.cells a 50)).alloc (.cells b 50)).alloc (.cells c 50)).alloc (.cells d 50)) w.heap.size 50 a /\
  fX ((((w.alloc (.cells a 50)).alloc (.cells b 50)).alloc (.cells c 50)).alloc (.cells d 50)) (w.heap.size+1) 50 b/\fX ((((w.alloc (.cells a 50)).alloc (.cells b 50)).alloc (.cells c 50)).alloc (.cells d 50)) (w.heap.size+2) 50 c /\
  fX ((((w.alloc (.cells a 50)).alloc (.cells b 50)).alloc (.cells c 50)).alloc (.cells d 50)) (w.heap.size+3) 50 d:=by
 obtain⟨e,f,g,i⟩:=AD w a b c;refine⟨e.alloc (by first|(simp;done)|(simp;omega)) _,f.below ((bG _ _).alloc (ag _) _) (by first|(simp;done)|(simp;omega)),g.below ((bG _ _).alloc (ag _) _) (by first|(simp;done)|(simp;omega)),i.below ((bG _ _).alloc (ag _) _) sm,?_⟩
 have h:=fX.new (((w.alloc (.cells a 50)).alloc (.cells b 50)).alloc (.cells c 50)) 50 d;simpa using h
def yf(w:World)(q r:Int)(e:Ending)(w':World):Prop:=∃v1 v2,e=.returned (.tuple #[v1,v2,.bool true])/\eC w' w'.heap.size v1 q/\eC w' w'.heap.size v2 r/\Below w.heap.size w w'
def yf.cells{g1 g2:Nat}{n1 n2 a b:Bool}{A1 A2 D1 D2:Option Addr}{k1 c1 k2 c2 m1 d1 m2 d2:Nat}{q r q' r':Int}
  (f:eC w2 w2.heap.size (.agg #[.bool n1,.slice A1 k1 c1]) q) (g:eC w2 w2.heap.size (.agg #[.bool n2,.slice A2 k2 c2]) r)
  (h:fX w2 g1 50 #[.bool a,.slice D1 m1 d1]) (m:fX w2 g2 50 #[.bool b,.slice D2 m2 d2]) (c:g1≠g2) (n:Below w.heap.size w w2) (d:w.heap.size<=g1) (e:w.heap.size<=g2) (o:q=q') (p:r=r') :
  yf w q' r' (.returned (.tuple #[.agg #[.bool n1,.slice A1 k1 c1],.agg #[.bool n2,.slice A2 k2 c2],.bool true]))
   ((((w2.setCell ⟨g1,0,none⟩ (.bool n1)).setCell ⟨g1,1,none⟩ (.slice A1 k1 c1)).setCell ⟨g2,0,none⟩ (.bool n2)).setCell ⟨g2,1,none⟩ (.slice A2 k2 c2)):=by
 subst o p;have k:fX (w2.setCell ⟨g1,0,none⟩ (.bool n1)) g1 50 #[.bool n1,.slice D1 m1 d1]:=by simpa using h.set_ 0 (.bool n1)
 have j:=(m.other (i:=0) (u:=.bool n1) c.symm).other (g':=g1) (i:=1) (u:=.slice A1 k1 c1) c.symm;have l:fX (((w2.setCell ⟨g1,0,none⟩ (.bool n1)).setCell ⟨g1,1,none⟩ (.slice A1 k1 c1)).setCell ⟨g2,0,none⟩ (.bool n2)) g2 50 #[.bool n2,.slice D2 m2 d2]:=by simpa using j.set_ 0 (.bool n2)
 have s:=(((f.put (i:=0) (u:=.bool n1) h (md _ _ _ _)).put (i:=1) (u:=.slice A1 k1 c1) k (md _ _ _ _)).put (i:=0) (u:=.bool n2) j (md _ _ _ _)).put (i:=1) (u:=.slice A2 k2 c2) l (md _ _ _ _);have t:=(((g.put (i:=0) (u:=.bool n1) h (md _ _ _ _)).put (i:=1) (u:=.slice A1 k1 c1) k (md _ _ _ _)).put (i:=0) (u:=.bool n2) j (md _ _ _ _)).put (i:=1) (u:=.slice A2 k2 c2) l (md _ _ _ _);exact⟨_,_,rfl,by simpa using s,by simpa using t,(((n.setCell (by exact d) _).setCell (by exact d) _).setCell (by exact e) _).setCell (by exact e) _⟩
def Ru(a:Bool)(x y:Nat):sg a (x/y)=(sg false x)/(sg a y)/\((x%y:Nat):Int)=(sg false x)%(sg a y):=by
 cases a<;>simp[sg,Ex]
def Fr(c:Bool)(x y:Nat)(f:0<y)(h:0<x%y):sg (!c) (x/y+1)=(sg true x)/(sg c y)/\((y-x%y:Nat):Int)=(sg true x)%(sg c y):=by
 have g:=cW x y;have i:=di x f;have e:(-(x:Int))=(y:Int)*(-((x/y:Nat):Int)-1)+((y-x%y:Nat):Int):=by
  have:((y-x%y:Nat):Int)=(y:Int)-((x%y:Nat):Int):=om
  rw[this];have j:(x:Int)=(y:Int)*((x/y:Nat):Int)+((x%y:Nat):Int):=by rw[<-aV,<-ef,g]
  rw[mT,mU];omega
 have d:(-(x:Int))/(y:Int)=-((x/y:Nat):Int)-1/\(-(x:Int))%(y:Int)=((y-x%y:Nat):Int):=by
  have:=(pm (a:=-(x:Int)) (b:=(y:Int)) (r:=((y-x%y:Nat):Int)) (q:=-((x/y:Nat):Int)-1) om).2 ⟨by rw[QL];exact e.symm,om,om⟩
  exact this
 cases c
 .simp only[sg,qX,aH,dB,aI];rw[d.1,d.2];exact⟨om,rfl⟩
 .simp only[sg,BO,aH,dB,aI];rw[Ex,QI,d.1,d.2];exact⟨om,rfl⟩
def Fs(c:Bool)(x y:Nat)(e:0<y)(h:x%y=0):sg (!c) (x/y)=(sg true x)/(sg c y)/\((0:Nat):Int)=(sg true x)%(sg c y):=by
 have f:=cW x y;have g:(x:Int)=(y:Int)*((x/y:Nat):Int):=by rw[<-aV];omega
 have d:(-(x:Int))/(y:Int)=-((x/y:Nat):Int)/\(-(x:Int))%(y:Int)=0:=by
  have:=(pm (a:=-(x:Int)) (b:=(y:Int)) (r:=0) (q:=-((x/y:Nat):Int)) om).2 ⟨by rw[mU];omega,om,om⟩
  exact this
 cases c
 .simp only[sg,qX,aH,dB,aI];rw[d.1,d.2];exact⟨rfl,rfl⟩
 .simp only[sg,BO,aH,dB,aI];rw[Ex,QI,d.1,d.2];exact⟨om,rfl⟩
def Ba(va vb:Value)(za zb:Int)(B:Nat)(w:World)(hB:B<=w.heap.size)(ha:eC w B va za)(hb:eC w B vb zb)(sa:nl za.natAbs<=268435456)(sb:nl zb.natAbs<=268435456)(h0:zb≠0)(hdv:∀(A D:Option Addr) (n m c d:Nat) (xs ys:List Nat) (w:World),B<=w.heap.size->cE w B A n xs->cE w B D m ys->pg xs->pg ys->0<bC ys->bC xs=za.natAbs->bC ys=zb.natAbs->Calls ak 137 #[.slice A n c,.slice D m d] w (nf w (bC xs/bC ys) (bC xs%bC ys))) :
  Calls ak 82 #[va,vb] w (yf w (za/zb) (za%zb)):=by
 obtain⟨s1,A,n,c,xs,rfl,hnc,hx,tx,rfl⟩:=ha;obtain⟨s2,D,m,d,ys,rfl,hmd,hy,ty,rfl⟩:=hb;rw[fJ]at sa sb;rw[<-aD hx tx]at sa;rw[<-aD hy ty]at sb;have hy0:0<bC ys:=by
  rcases bD (bC ys)with h|h
  .rw[h,tU]at h0;exact absurd rfl h0
  .exact h
 have hm0:m≠0:=by
  intro h;have h1:=aD hy ty;rw[h]at h1;have:=jR.1 (om:nl (bC ys)<=0)
  simp at this;omega
 have hm0':((m:Int)==0)=false:=by simp;omega
 have HX:=ab hx;clear hx;have HY:=ab hy;clear hy;have HTX:=ab tx;clear tx;have HTY:=ab ty;clear ty;have HY0:=ab hy0;clear hy0;have HDV:=ab hdv;clear hdv;clear h0;have HN:=ab (aD HX.out HTX.out);have HM:=ab (aD HY.out HTY.out)
 go_enter func82,ntmps82
 go_wp2_with fail
 obtain⟨hb0,k1,k2,k3,k4⟩:=RB w #[au s1,ao A n c] #[au s2,ao D m d] #[au false,ao none 0 0] #[au false,ao none 0 0];generalize ((((w.alloc (Obj.cells #[au s1,ao A n c] 50)).alloc (Obj.cells #[au s2,ao D m d] 50)).alloc (Obj.cells #[au false,ao none 0 0] 50)).alloc (Obj.cells #[au false,ao none 0 0] 50))=W at hb0 k1 k2 k3 k4 ⊢;obtain⟨a0,a1⟩:=eW k1;obtain⟨b0,b1⟩:=eW k2;have HK3:=ab k3;have HK4:=ab k4;have HB0:=ab hb0;have hg2:w.heap.size+4<=W.heap.size:=k4.lt;clear k1 k2 k3 k4 hb0;have HS:=ab (show ∀w1,Below (w.heap.size+2) W w1->(w1.cell? ⟨w.heap.size,0,none⟩=some (.bool s1)/\w1.cell? ⟨w.heap.size,1,none⟩=some (.slice A n c)/\w1.cell? ⟨w.heap.size+1,0,none⟩=some (.bool s2)/\w1.cell? ⟨w.heap.size+1,1,none⟩=some (.slice D m d))from
  fun w1 h=>⟨(h.cell (by show w.heap.size<_;omega)).trans a0,(h.cell (by show w.heap.size<_;omega)).trans a1,(h.cell (by show w.heap.size+1<_;omega)).trans b0,(h.cell (by show w.heap.size+1<_;omega)).trans b1⟩)
 have HUX:Hid (cE W B A n xs):=ab (HX.out.below HB0.out hB);have HUY:Hid (cE W B D m ys):=ab (HY.out.below HB0.out hB);refine(fR D m d B ys W hmd om HUY.out HTY.out).mono ?_;rintro e w' ⟨rfl,rfl⟩
 go_wp2_with fail
 refine(fR A n c B xs W hnc om HUX.out HTX.out).mono ?_;rintro e w' ⟨rfl,rfl⟩
 go_wp2_with fail
 refine(HDV.out A D n m c d xs ys W om HUX.out HUY.out HTX.out HTY.out HY0.out (fJ _ _).symm (fJ _ _).symm).mono ?_;rintro e w1 ⟨A1,j1,c1,qs,A2,j2,c2,rs,rfl,hj1,hj2,hU1,hU2,hT1,hT2,hv1,hv2,hbn⟩;have hjq:j1<=n:=by
  have h1:=fM (gG (bC xs) (bC ys));rw[<-hv1,<-aD hU1 hT1,<-aD HX.out HTX.out]at h1;exact h1
 have hjr:j2<=n:=by
  have h1:=fM (SV (bC xs) (bC ys));rw[<-hv2,<-aD hU2 hT2,<-aD HX.out HTX.out]at h1;exact h1
 have HU1:=ab hU1;clear hU1;have HU2:=ab hU2;clear hU2;have HT1:=ab hT1;clear hT1;have HT2:=ab hT2;clear hT2;have HV1:=ab hv1;clear hv1;have HV2:=ab hv2;clear hv2;have HB1:=ab hbn;have hsz1:=hbn.size;obtain⟨c00,c01,c10,c11⟩:=HS.out w1 (hbn.mono om);clear hbn a0 a1 b0 b1
 cases s1
 .have HZ:=ab (Ru s2 (bC xs) (bC ys))
  go_wp2_with fail
  refine(gW s2 A1 j1 c1 w1.heap.size qs w1 hj1 om (ag _) HU1.out HT1.out).mono ?_;rintro e y2 ⟨v,rfl,hI,hbn⟩;obtain⟨neg,A3,n3,c3,zs3,rfl,hI3⟩:=hI;have HI:=ab hI3;clear hI3;have HB2:=ab hbn;clear hbn
  go_wp2_with fail
  refine(gW false A2 j2 c2 w1.heap.size rs y2 hj2 om HB2.out.size (HU2.out.below HB2.out (ag _)) HT2.out).mono ?_;rintro e y3 ⟨v,rfl,hI,hbn⟩;obtain⟨neg',A4,n4,c4,zs4,rfl,hI4⟩:=hI;have HJ:=ab hI4;clear hI4;have HB3:=ab hbn;clear hbn;have hsz2:=HB2.out.size;have HBW:Hid (Below W.heap.size W y3):=ab ((HB1.out.trans (HB2.out.mono om)).trans (HB3.out.mono om));have hk3:=HK3.out.below HBW.out om;have hk4:=HK4.out.below HBW.out om;obtain⟨e0,e1⟩:=eW hk3;have f0:=hk3.frozen 0;have f1:=hk3.frozen 1;obtain⟨g0,g1⟩:=eW hk4;have i0:=hk4.frozen 0;have i1:=hk4.frozen 1;have HK5:=ab hk3;clear hk3;have HK6:=ab hk4;clear hk4;go_wp2;exact cQ (v:=.tuple #[.agg #[.bool neg,.slice A3 n3 c3],.agg #[.bool neg',.slice A4 n4 c4],.bool true]) (by simp[results,Tk,go_sem,e0,e1,g0,g1]) rfl
   (yf.cells (eC.more (eC.below ⟨neg,A3,n3,c3,zs3,rfl,HI.out⟩ HB3.out (ag _)) HB3.out.size) ⟨neg',A4,n4,c4,zs4,rfl,HJ.out⟩ HK5.out HK6.out om (HB0.out.trans (HBW.out.mono om)) om om (by rw[HV1.out];exact HZ.out.1) (by rw[HV2.out];exact HZ.out.2))
 .by_cases hr0:j2=0
  .subst hr0;have hrs:rs=[]:=mQ.1 HU2.out.1;have h00:bC xs%bC ys=0:=by rw[<-HV2.out,hrs]<;>rfl
   have HZ:=ab (Fs s2 (bC xs) (bC ys) HY0.out h00);have HRS:=ab hrs;clear hrs;clear h00
   go_wp2_with fail
   refine(gW (!s2) A1 j1 c1 w1.heap.size qs w1 hj1 om (ag _) HU1.out HT1.out).mono ?_;rintro e y2 ⟨v,rfl,hI,hbn⟩;obtain⟨neg,A3,n3,c3,zs3,rfl,hI3⟩:=hI;have HI:=ab hI3;clear hI3;have HB2:=ab hbn;clear hbn
   go_wp2_with fail
   refine(gW false A2 0 c2 w1.heap.size rs y2 hj2 om HB2.out.size (HU2.out.below HB2.out (ag _)) HT2.out).mono ?_;rintro e y3 ⟨v,rfl,hI,hbn⟩;obtain⟨neg',A4,n4,c4,zs4,rfl,hI4⟩:=hI;have HJ:=ab hI4;clear hI4;have HB3:=ab hbn;clear hbn;have hsz2:=HB2.out.size;have HBW:Hid (Below W.heap.size W y3):=ab ((HB1.out.trans (HB2.out.mono om)).trans (HB3.out.mono om));have hk3:=HK3.out.below HBW.out om;have hk4:=HK4.out.below HBW.out om;obtain⟨e0,e1⟩:=eW hk3;have f0:=hk3.frozen 0;have f1:=hk3.frozen 1;obtain⟨g0,g1⟩:=eW hk4;have i0:=hk4.frozen 0;have i1:=hk4.frozen 1;have HK5:=ab hk3;clear hk3;have HK6:=ab hk4;clear hk4;go_wp2;exact cQ (v:=.tuple #[.agg #[.bool neg,.slice A3 n3 c3],.agg #[.bool neg',.slice A4 n4 c4],.bool true]) (by simp[results,Tk,go_sem,e0,e1,g0,g1]) rfl
    (yf.cells (eC.more (eC.below ⟨neg,A3,n3,c3,zs3,rfl,HI.out⟩ HB3.out (ag _)) HB3.out.size) ⟨neg',A4,n4,c4,zs4,rfl,HJ.out⟩ HK5.out HK6.out om (HB0.out.trans (HBW.out.mono om)) om om (by rw[HV1.out];exact HZ.out.1) (by rw[HRS.out];exact HZ.out.2))
  .have hpos:0<bC xs%bC ys:=by
    rcases bD (bC xs%bC ys)with h|h
    .have h1:=aD HU2.out HT2.out;rw[HV2.out,h]at h1;have:nl 0=0:=by have:=jR.2 (om:0<4294967296^0);omega
     omega
    .exact h
   have HZ:=ab (Fr s2 (bC xs) (bC ys) HY0.out hpos);have hlt:=di (bC xs) HY0.out;have hj2m:j2<=m:=by
    have h1:=fM (du hlt);rw[<-HV2.out,<-aD HU2.out HT2.out,<-aD HY.out HTY.out]at h1;exact h1
   have HLE:Hid (bC rs<=bC ys):=ab (by rw[HV2.out];omega)
   clear hlt hpos;have hj20:(0:Int)<j2:=om
   go_wp2_with fail
   have hbo:=(bG w1.heap.size w1).alloc (ag _) (Obj.cells #[dx IntKind.u32 1] 136);have hblk:fX (w1.alloc (Obj.cells #[dx IntKind.u32 1] 136)) w1.heap.size 136 (dI [1] 0):=by
    have:=fX.new w1 136 #[dx IntKind.u32 1];simpa [dI]using this
   have hU1:=cE.ofBlk (B:=w1.heap.size+1) hblk (by intro x hx;simp at hx;omega) om rfl
   refine(AI A1 (some ⟨w1.heap.size,0,none⟩) j1 1 c1 1 (w1.heap.size+1) qs [1] _ om om sm ((HU1.out.below hbo (ag _)).more om) hU1).mono ?_
   rintro e w2 ⟨A5,k5,c5,zs5,rfl,hk5,hU5,hT5,hv5,hb5⟩;have HB5:=ab (hbo.trans (hb5.mono sm))
   have hk5n:k5<=n+1:=by
    have h1:=LX (bC qs) (bC [1]);have h2:=aD hU5 hT5;have h3:=aD HU1.out HT1.out;have h4:nl (bC [1])<=1:=jR.2 (by simp[bC])
    rw[hv5]at h2;omega
   have HU5:=ab hU5;clear hU5;have HT5:=ab hT5;clear hT5;have HV5:=ab hv5;clear hv5;clear hb5 hbo hblk hU1;have hsz5:=HB5.out.size;obtain⟨d00,d01,d10,d11⟩:=HS.out w2 ((HB1.out.mono om).trans (HB5.out.mono om))
   go_wp2_with fail
   refine(qo D A2 m j2 d c2 w1.heap.size ys rs w2 hj2m om hsz5 ((HUY.out.below (HB1.out.trans (HB5.out.mono om)) om).more om) (HU2.out.below HB5.out (ag _)) HLE.out).mono ?_;rintro e w3 ⟨A6,k6,c6,zs6,rfl,hk6,hU6,hT6,hv6,hb6⟩;have hk6m:k6<=m:=by
    have h1:=fM (Nat.sub_le (bC ys) (bC rs));rw[<-hv6,<-aD hU6 hT6,<-aD HY.out HTY.out]at h1;exact h1
   have HB6:=ab hb6;clear hb6;have HU6:=ab hU6;clear hU6;have HT6:=ab hT6;clear hT6;have HV6:=ab hv6;clear hv6;have hsz6:=HB6.out.size
   go_wp2_with fail
   refine(gW (!s2) A5 k5 c5 w3.heap.size zs5 w3 hk5 om (ag _) ((HU5.out.below HB6.out (ag _)).more HB6.out.size) HT5.out).mono ?_;rintro e y2 ⟨v,rfl,hI,hbn⟩;obtain⟨neg,A3,n3,c3,zs3,rfl,hI3⟩:=hI;have HI:=ab hI3;clear hI3;have HB2:=ab hbn;clear hbn
   go_wp2_with fail
   refine(gW false A6 k6 c6 w3.heap.size zs6 y2 hk6 om HB2.out.size (HU6.out.below HB2.out (ag _)) HT6.out).mono ?_;rintro e y3 ⟨v,rfl,hI,hbn⟩;obtain⟨neg',A4,n4,c4,zs4,rfl,hI4⟩:=hI;have HJ:=ab hI4;clear hI4;have HB3:=ab hbn;clear hbn;have hsz2:=HB2.out.size;have HBW:Hid (Below W.heap.size W y3):=ab ((((HB1.out.trans (HB5.out.mono om)).trans (HB6.out.mono om)).trans (HB2.out.mono om)).trans (HB3.out.mono om));have hk3:=HK3.out.below HBW.out om;have hk4:=HK4.out.below HBW.out om;obtain⟨e0,e1⟩:=eW hk3;have f0:=hk3.frozen 0;have f1:=hk3.frozen 1;obtain⟨g0,g1⟩:=eW hk4;have i0:=hk4.frozen 0;have i1:=hk4.frozen 1;have HK5:=ab hk3;clear hk3;have HK6:=ab hk4;clear hk4;go_wp2;exact cQ (v:=.tuple #[.agg #[.bool neg,.slice A3 n3 c3],.agg #[.bool neg',.slice A4 n4 c4],.bool true]) (by simp[results,Tk,go_sem,e0,e1,g0,g1]) rfl
    (yf.cells (eC.more (eC.below ⟨neg,A3,n3,c3,zs3,rfl,HI.out⟩ HB3.out (ag _)) HB3.out.size) ⟨neg',A4,n4,c4,zs4,rfl,HJ.out⟩ HK5.out HK6.out om (HB0.out.trans (HBW.out.mono om)) om om (by rw[HV5.out,HV1.out];simp only[bC,dO,cB];exact HZ.out.1) (by rw[HV6.out,HV2.out];exact HZ.out.2))
def Io(va vb:Value)(za zb:Int)(B:Nat)(w:World)(h:B<=w.heap.size)(i:eC w B va za)(j:eC w B vb zb)(sa:nl za.natAbs<=268435456)(sb:nl zb.natAbs<=268435456)(k:zb≠0)(e:za.natAbs<zb.natAbs∨nl za.natAbs<=2∨nl zb.natAbs<=1) :
  Calls ak 82 #[va,vb] w (yf w (za/zb) (za%zb)) :=
 Ba va vb za zb B w h i j sa sb k fun A D n m c d xs ys w l a b tx ty o f g=>by
  rw[<-f,<-g,<-aD a tx,<-aD b ty]at e;rw[<-f,<-aD a tx]at sa;rw[<-g,<-aD b ty]at sb;exact At A D n m c d B xs ys w om om l a b tx ty o e

def tabv(i:Int)(h:i.toNat<Lib.len8tab.size):((Lib.len8tab[i.toNat]'h).toNat:Int)=Lib.len8 i:=by
 simp only[Lib.len8,ByteArray.getElem?_lt' _ _ h,iE]
def l24(x:Int)(h:65536<=x)(a:256<=x/65536)(b:x<=4294967295):wrap64 (24+wrap64 (Lib.len8 (x/65536/256)))=(jz x.toNat:Int):=by
 obtain⟨n,rfl⟩:∃n:Nat,x=n:=⟨x.toNat,om⟩
 have e:(n:Int)/65536/256=((n/65536/256:Nat):Int):=om
 have c:n/65536/256<256:=om
 have l:=Lib.bitLen_le8' ((n/65536/256:Nat):Int) om om;have s1:=Lib.bitLen_shift16 n om om;have d:=Lib.bitLen_shift8 (n/65536) om om;rw[e,Lib.len8_of _ om om];rw[cR]at l ⊢;rw[cR];unfold wrap64;omega
def GZ(x:Int)(w:World)(h0:0<x)(h1:x<=4294967295):Calls ak 239 #[.int .u32 x] w fun e w'=>e=.returned (.int .i64 (jz x.toNat))/\w'=w:=by
 have h0':0<=x:=om
 go_enter func239,ntmps239
 generalize hL:Value.string _=s;obtain rfl:Value.string Lib.len8tab=s:=by rw[<-hL];kernel_rfl
 clear hL;go_wp2
 all_goals first
  | (exfalso;have hz:=Lib.len8tab_size;omega)
  | (go_ret;refine⟨nF Ending.returned (nF (dx IntKind.i64) ?_),rfl⟩;rw[tabv])
 all_goals first
  | (exact l24 x om om om)
  | (rw[Lib.len8_of (x/65536) om om]
     have e:(x/65536).toNat=x.toNat/65536:=om
     have l:=Lib.bitLen_le8' (x/65536) om om;have s:=Lib.bitLen_shift16 x.toNat om om;rw[e]at l ⊢;unfold wrap64;omega)
  | (rw[Lib.len8_of (x/256) om om]
     have e:(x/256).toNat=x.toNat/256:=om
     have l:=Lib.bitLen_le8' (x/256) om om;have s:=Lib.bitLen_shift8 x.toNat om om;rw[e]at l ⊢;unfold wrap64;omega)
  | (rw[Lib.len8_of x om om]
     have l:=Lib.bitLen_le8' x om om;unfold wrap64;omega)
theorem Cs:∀(f x:Nat),x<2^f->x<2^Lib.bitLenAux f x
 | 0,x,h=>h
 | f+1,x,h=>by
  unfold Lib.bitLenAux;by_cases a:x=0
  .simp[a]
  .rw[ah a,jM 1,bZ];have:=Cs f (x/2) (by rw[bZ]at h;omega)
   omega
def J1(x:Nat)(w:World)(h0:0<x)(h1:x<4294967296):Calls ak 198 #[.int .u32 x] w fun e w'=>∃s:Nat,e=.returned (.int .i64 s)/\s<32/\x*2^s<4294967296/\w'=w:=by
 have l:=Lib.bitLen_le x 32 om om;have b2:x<2^jz x:=Cs 64 x om;have b1:0<jz x:=by
  rcases bD (jz x)with h|h
  .rw[h]at b2;simp at b2;omega
  .exact h
 have e8:wrap64 (32-(jz x:Int))=((32-jz x:Nat):Int):=by unfold wrap64;omega
 have hl:((x:Int).toNat)=x:=cR x;have hr:x*2^(32-jz x)<4294967296:=by
  have h2:=qQ b2 (jd (32-jz x));rw[<-fD,(om:jz x+(32-jz x)=32)]at h2
  exact h2
 have HR:=ab hr;clear hr
 go_enter func198,ntmps198
 go_wp2_with fail
 refine(GZ x _ om om).mono ?_;rintro e w' ⟨rfl,rfl⟩;rw[hl];clear hl b2;go_wp2;go_ret;refine⟨32-jz x,?_,om,HR.out,rfl⟩
 exact nF Ending.returned (nF (dx IntKind.i64) (show(32:Int)-(jz x:Int)=((32-jz x:Nat):Int) by omega))

section
variable {P:Program} (w:World)
def yr(t ty e:TypeId)(i:TypeInfo)(a:P.underlying t=some (.slice e))(b:P.info? e=some i)(A:Option Addr)(c:Nat) :
  (Builtin.append_ #[t,t] ty #[.slice none 0 0,.slice A 0 c]).run P w=.ok (.slice none 0 0) w:=by
 cases A<;>simp[Builtin.append_,bM a,sizeOf,typeInfo,b,Builtin.lenOf,Builtin.firstCells,loadCells,loadCellsFrom]
def jE{a:Act}(d:o.guard=none)(s x:Operand)(t:TypeId)
  (p:o.op=.call { callee:=.builtin .append,args:=#[s,x],argTypes:=#[t,t] })
  (e:TypeId) (i:TypeInfo) (z:Value) (size bytes:Nat) (q:P.underlying t=some (.slice e)) (r:P.info? e=some i) (D:i.zero=some z)
  (hsize:i.size=size) (f:i.bytes=bytes) (k:z.cells.size=size) (l:0<size)
  (v:a.eval s=.slice none 0 0)
  (A:Option Addr) (m c:Nat) (news:List Value) (y:a.eval x=.slice A m c) (B:news.length=m*size) (hnews:0<m->∃ad,A=some ad/\∀j u,news[j]? = some u->w.cell? (ad.add j)=some u) (E:∀u∈news,u.oneCell'=true)
  (F:m<=maxLen) (hbytes:m*bytes<=140737488355328)
  (h:∀A' c' w',w'.ownsRow w.heap.size e size (.slice A' m c') m news->w.grownBy w' none->wpList P ops Q rest (a.put o.dst (.slice A' m c')) w') :
  wpList P ops Q (o::rest) a w:=by
 rcases bD m with n|n
 .subst n;have G:news=[]:=List.eq_nil_of_length_eq_zero (by simpa using B)
  subst G;refine wpList_plain d fun K H=>?_;unfold Oper.wp execOp;simp only[p,resolve,invoke,builtin,j9,Ib,ir,List.map_toArray,iJ,List.map_nil,v,y,yr w t o.type e i q r A c];exact H _ _ (h none 0 w (H8 w _ e size) ⟨rfl,rfl,rfl,ag _,fun _ _ _=>rfl⟩)
 .obtain⟨ad,rfl,I⟩:=hnews n;refine qi w d s x t p w.heap.size e i z size bytes q r D hsize f k l (.slice none 0 0) 0 [] v (H8 w _ e size) ad m c news y B I E om (by simpa using hbytes) (ag _) ?_
  intro v' w' b hgrow C _;rw[aM,xq]at b;obtain⟨A',c',rfl⟩:∃A' c',v'=.slice A' m c':=by
   rcases b.2 with⟨h,J⟩|⟨g,cap,_,h,_⟩
   .omega
   .exact⟨_,_,h⟩
  exact h A' c' w' b hgrow
end
def jS(xs:List Nat):List Value:=xs.map (fun x:Nat=>dx .u32 x)
def ug(xs:List Nat):∀u∈jS xs,u.oneCell'=true:=by
 intro u a;simp only[jS,ib]at a;obtain⟨x,_,rfl⟩:=a;rfl
def cE.src(h:cE w B A n xs):0<n->∃ad,A=some ad/\∀j u,(jS xs)[j]? = some u->w.cell? (ad.add j)=some u:=by
 intro a;obtain⟨ad,rfl,_⟩:=h.2.2 a;exact⟨ad,rfl,h.cells⟩
def gC(A:Option Addr)(n c B:Nat)(xs:List Nat)(w:World)(hn:n<=c)(hm:n<=2147483648)(hB:B<=w.heap.size)(h:cE w B A n xs) :
  Calls ak 71 #[.slice A n c] w (qH w (bC xs)):=by
 have HH:=ab h;clear h
 go_enter func71,ntmps71
 go_wp2
 go_loop [3] (fun s=>∃k:Nat,k<=n/\s=.int .i64 k/\Hid (∀j,k<=j->xs.getD j 0=0)) (fun s=>(intOf s).toNat)
 case atStart=>exact⟨n,ag _,rfl,ab (fun j hj=>by simp[df,dX (show xs.length<=j by rw[HH.out.1];exact hj)])⟩
 case round =>
  obtain⟨k,hk,rfl,hz⟩:=hrel;by_cases h0:k=0
  .subst h0
   go_wp2_with (at_builtin;refine jE _ rfl _ _ 48 rfl 136 Tryz.t136 (.int .u32 0) 1 4 fO G6 Gm GE Hs rfl om rfl A 0 c [] rfl rfl (fun h=>absurd h om) sm sm sm ?_)
   intro A' c' w1 hown hgrow;obtain⟨hU,hc⟩:=cE.ofOwn (xs:=[]) hown (by simp[mX])
   have HU:=ab hU;have HB:=ab (ku hgrow (B:=w.heap.size) (ag _) (by intro g h;cases h))
   have HV:=ab (nj 0 xs hz.out);clear hU hown hgrow hz;go_wp2;go_ret;exact⟨_,_,_,_,rfl,hc,HU.out,zX,by rw[HV.out];rfl,HB.out⟩
  .obtain⟨m,rfl⟩:∃m,k=m+1:=⟨k-1,om⟩
   obtain⟨ad,x,rfl,_,hx',_,hx⟩:=HH.out.at_ (k:=m) om;have HX:=ab hx';clear hx';by_cases hx0:x=0
   .subst hx0;go_wp2;refine⟨⟨m,om,by go_num,ab fun j hj=>?_⟩,by simp[intOf]⟩
    rcases aB m j with h|h
    .exact hz.out j h
    .obtain rfl:j=m:=om
     exact HX.out
   .have hb1:((x:Int)==0)=false:=by simp;omega
    have HT:=HH.out.take hk;have HTT:=ab HT;clear HT
    go_wp2_with (at_builtin;refine jE _ rfl _ _ 48 rfl 136 Tryz.t136 (.int .u32 0) 1 4 fO G6 Gm GE Hs rfl om rfl (some ad) (m+1) c (jS (xs.take (m+1))) rfl (by simp[jS];rw[HH.out.1];omega) (HTT.out.src) (ug _) (by simp[maxLen];omega) om ?_)
    intro A' c' w1 hown hgrow;obtain⟨hU,hc⟩:=cE.ofOwn hown (HH.out.2.1.take _);have HU:=ab hU;have HB:=ab (ku hgrow (B:=w.heap.size) (ag _) (by intro g h;cases h))
    have HV:=ab (nj (m+1) xs hz.out);have HTP:Hid (pg (xs.take (m+1))):=ab (tN (fun _=>by rw[eB,HX.out];exact hx0) (by rw[HH.out.1];exact hk))
    clear hU hown hgrow hz;go_wp2;go_ret;exact⟨_,_,_,_,rfl,hc,HU.out,HTP.out,HV.out.symm,HB.out⟩

def QU(neg:Bool)(k v:Nat)(h:k=0->v=0):sg (neg&&decide (0<k)) v=sg neg v:=by
 rcases bD k with a|a
 .rw[h a,tU,tU]
 .have:decide (0<k)=true:=by simp;omega
  rw[this,Bool.and_true]
def LW(h:cE w B A n xs):n=0->bC xs=0:=by
 intro a;subst a;rw[mQ.1 h.1];rfl
def lK(neg:Bool)(A:Option Addr)(n c B:Nat)(xs:List Nat)(w:World)(hn:n<=c)(hm:n<=2147483648)(hB:B<=w.heap.size)(h:cE w B A n xs) :
  Calls ak 103 #[.bool neg,.slice A n c] w (dJ w (sg neg (bC xs))):=by
 have HH:=ab h;clear h;have hb0:=(bG w.heap.size w).alloc (ag _) (Obj.cells #[au false,ao none 0 0] 50);have HU:=ab (HH.out.below hb0 hB);have HB0:=ab hb0;clear hb0;have hkn:∀(k:Nat) (zs:List Nat) (w':World) (B':Nat) (A':Option Addr),cE w' B' A' k zs->pg zs->bC zs=bC xs->k<=n:=by
  intro k zs w' B' A' hu ht hv;rw[aD hu ht,hv];have h1:=ju HH.out.2.1;rw[HH.out.1]at h1;exact jR.2 h1
 have HKN:=ab hkn;clear hkn;have main:∀(A1:Option Addr) (k c1:Nat) (zs:List Nat) (w1:World),k<=c1->Hid (cE w1 w1.heap.size A1 k zs)->Hid (pg zs)->Hid (bC zs=bC xs)->Hid (Below (w.heap.size+1) (w.alloc (Obj.cells #[au false,ao none 0 0] 50)) w1) ->
   ∀ng:Bool,ng=(neg&&decide (0<k))->fX w1 w.heap.size 50 #[.bool false,.slice none 0 0]->dJ w (sg neg (bC xs)) (.returned (.agg #[.bool ng,.slice A1 k c1])) ((w1.setCell ⟨w.heap.size,0,none⟩ (.bool ng)).setCell ⟨w.heap.size,1,none⟩ (.slice A1 k c1)):=by
  intro A1 k c1 zs w1 hk HU1 HT1 HV1 HB1 ng hng hblk;refine dJ.cell ⟨ng,A1,k,c1,zs,rfl,hk,HU1.out,HT1.out,rfl⟩ hblk (HB0.out.trans (HB1.out.mono om)) (ag _) ?_;rw[hng,QU _ _ _ (LW HU1.out),HV1.out]
 have HM:=ab main;clear main
 cases neg
 .go_enter func103,ntmps103
  go_wp2_with fail
  refine(gC A n c B xs _ hn hm (by simp;omega) HU.out).mono ?_
  rintro e w1 ⟨A1,k,c1,zs,rfl,hk,hU1,hT1,hv1,hb1⟩;have hkn:=HKN.out _ _ _ _ _ hU1 hT1 hv1;have hblk:fX w1 w.heap.size 50 #[.bool false,.slice none 0 0]:=(fX.new w 50 _).below hb1 sm
  have HB1:Hid (Below (w.heap.size+1) (w.alloc (Obj.cells #[au false,ao none 0 0] 50)) w1):=ab (by simpa using hb1)
  obtain⟨e0,e1⟩:=eW hblk;have f0:=hblk.frozen 0;have f1:=hblk.frozen 1;have HK:=ab hblk;have HU1:=ab hU1;clear hU1;have HT1:=ab hT1;clear hT1;have HV1:=ab hv1;clear hv1;clear hb1 hblk;go_wp2;exact cQ (v:=.agg #[.bool false,.slice A1 k c1]) (by simp[results,results103,go_sem,e0,e1]) rfl (HM.out A1 k c1 zs w1 hk HU1 HT1 HV1 HB1 false sm HK.out)
 .go_enter func103,ntmps103
  go_wp2_with fail
  refine(gC A n c B xs _ hn hm (by simp;omega) HU.out).mono ?_
  rintro e w1 ⟨A1,k,c1,zs,rfl,hk,hU1,hT1,hv1,hb1⟩;have hkn:=HKN.out _ _ _ _ _ hU1 hT1 hv1;have hblk:fX w1 w.heap.size 50 #[.bool false,.slice none 0 0]:=(fX.new w 50 _).below hb1 sm
  have HB1:Hid (Below (w.heap.size+1) (w.alloc (Obj.cells #[au false,ao none 0 0] 50)) w1):=ab (by simpa using hb1)
  obtain⟨e0,e1⟩:=eW hblk;have f0:=hblk.frozen 0;have f1:=hblk.frozen 1;have HK:=ab hblk;have HU1:=ab hU1;clear hU1;have HT1:=ab hT1;clear hT1;have HV1:=ab hv1;clear hv1;clear hb1 hblk;go_wp2;exact cQ (v:=.agg #[.bool (decide (0<k)),.slice A1 k c1]) (by simp[results,results103,go_sem,e0,e1]) rfl (HM.out A1 k c1 zs w1 hk HU1 HT1 HV1 HB1 _ (by rw[Bool.true_and]) HK.out)
def qk(neg:Bool)(v:Nat)(w:World)(hv:v<18446744073709551616) :
  Calls ak 69 #[.bool neg,.int .u64 v] w (dJ w (sg neg v)):=by
 have hl:mX [v%4294967296,v/4294967296]:=by
  intro x hx;simp only[BH,bF,Tu]at hx;rcases hx with rfl|rfl<;>omega
 have hvv:bC [v%4294967296,v/4294967296]=v:=by simp[bC];omega
 go_enter func69,ntmps69
 go_wp2_with fail
 obtain⟨W,hW⟩:∃W,W=w.alloc (Obj.cells #[au false,ao none 0 0] 50):=⟨_,rfl⟩;have hsz:W.heap.size=w.heap.size+1:=by rw[hW];simp
 have hk:fX W w.heap.size 50 #[.bool false,.slice none 0 0]:=by rw[hW];exact fX.new w 50 _
 have HB0:Hid (Below w.heap.size w W):=ab (by rw[hW];exact(bG w.heap.size w).alloc (ag _) _)
 rw[<-hW];have hb:fX (W.alloc (Obj.cells #[dx IntKind.u32 ((v:Int)%4294967296),dx IntKind.u32 ((v:Int)/4294967296)] 136)) W.heap.size 136 (dI [v%4294967296,v/4294967296] 0):=by
  have:=fX.new W 136 #[dx IntKind.u32 ((v:Int)%4294967296),dx IntKind.u32 ((v:Int)/4294967296)];simpa [dI]using this
 have hbb:=(bG W.heap.size W).alloc (ag _) (Obj.cells #[dx IntKind.u32 ((v:Int)%4294967296),dx IntKind.u32 ((v:Int)/4294967296)] 136);have hU:=cE.ofBlk (B:=W.heap.size+1) hb hl om rfl;have HK:=ab (hk.below hbb om);have HBV:Hid (Below w.heap.size w (W.alloc (Obj.cells #[dx IntKind.u32 ((v:Int)%4294967296),dx IntKind.u32 ((v:Int)/4294967296)] 136))):=ab (HB0.out.trans (hbb.mono om));rw[hsz]at hU hb;clear hk hb hbb hW;generalize hVV:W.alloc (Obj.cells #[dx IntKind.u32 ((v:Int)%4294967296),dx IntKind.u32 ((v:Int)/4294967296)] 136)=V at HK HBV hU ⊢;have hvs:V.heap.size=w.heap.size+2:=by rw[<-hVV];simp[hsz]
 clear hVV;have HU:=ab hU;clear hU;have HVV:=ab hvv;clear hvv;refine(lK neg _ _ _ (w.heap.size+1+1) _ V (ag _) sm om HU.out).mono ?_
 rintro e w2 ⟨v,rfl,hI,hb2⟩;obtain⟨neg,A2,n2,c2,zs2,rfl,hI2⟩:=hI;have hblk:fX w2 (w.heap.size) 50 #[.bool false,.slice none 0 0]:=fX.below (w:=V) HK.out hb2 om;obtain⟨e0,e1⟩:=eW hblk;have f0:=hblk.frozen 0;have f1:=hblk.frozen 1;have HK2:=ab hblk;clear hblk;have HI:=ab hI2;clear hI2;have HB2:=ab hb2;clear hb2;go_wp2;exact cQ (v:=.agg #[.bool neg,.slice A2 n2 c2]) (by simp[results,results69,go_sem,e0,e1]) rfl
  (dJ.cell ⟨neg,A2,n2,c2,zs2,rfl,HI.out⟩ HK2.out (HBV.out.trans (HB2.out.mono (by first|omega|(simp;done)|(simp;omega)))) om (by rw[HVV.out]))

def FT(z:Int)(w:World)(h1:-9223372036854775808<=z)(h2:z<=9223372036854775807):Calls ak 29 #[.int .i64 z] w (dJ w z):=by
 have HB0:=ab ((bG w.heap.size w).alloc (ag _) (Obj.cells #[au false,ao none 0 0] 50));have HK:=ab (fX.new w 50 #[au false,ao none 0 0]);by_cases hz:z<0
 .go_enter func29,ntmps29
  go_wp2_with fail
  rw[show IntKind.u64.wrap (-IntKind.u64.wrap z)=((z.natAbs:Nat):Int)from by rw[ci,ci];omega]
  refine(qk true z.natAbs _ om).mono ?_;rintro e w2 ⟨v,rfl,hI,hb2⟩;obtain⟨neg,A2,n2,c2,zs2,rfl,hI2⟩:=hI;have hblk:fX w2 (w.heap.size) 50 #[.bool false,.slice none 0 0]:=fX.below (w:=w.alloc (Obj.cells #[au false,ao none 0 0] 50)) HK.out hb2 sm
  obtain⟨e0,e1⟩:=eW hblk;have f0:=hblk.frozen 0;have f1:=hblk.frozen 1;have HK2:=ab hblk;clear hblk;have HI:=ab hI2;clear hI2;have HB2:=ab hb2;clear hb2;go_wp2;exact cQ (v:=.agg #[.bool neg,.slice A2 n2 c2]) (by simp[results,results29,go_sem,e0,e1]) rfl
   (dJ.cell ⟨neg,A2,n2,c2,zs2,rfl,HI.out⟩ HK2.out (HB0.out.trans (HB2.out.mono (by first|omega|(simp;done)|(simp;omega)))) om (by simp[sg];omega))
 .have hw:IntKind.u64.wrap z=((z.natAbs:Nat):Int):=by rw[ci];omega
  go_enter func29,ntmps29
  go_wp2_with fail
  refine(qk false z.natAbs _ om).mono ?_;rintro e w2 ⟨v,rfl,hI,hb2⟩;obtain⟨neg,A2,n2,c2,zs2,rfl,hI2⟩:=hI;have hblk:fX w2 (w.heap.size) 50 #[.bool false,.slice none 0 0]:=fX.below (w:=w.alloc (Obj.cells #[au false,ao none 0 0] 50)) HK.out hb2 sm
  obtain⟨e0,e1⟩:=eW hblk;have f0:=hblk.frozen 0;have f1:=hblk.frozen 1;have HK2:=ab hblk;clear hblk;have HI:=ab hI2;clear hI2;have HB2:=ab hb2;clear hb2;go_wp2;exact cQ (v:=.agg #[.bool neg,.slice A2 n2 c2]) (by simp[results,results29,go_sem,e0,e1]) rfl
   (dJ.cell ⟨neg,A2,n2,c2,zs2,rfl,HI.out⟩ HK2.out (HB0.out.trans (HB2.out.mono (by first|omega|(simp;done)|(simp;omega)))) om (by simp[sg];omega))
def CD(va:Value)(za:Int)(B:Nat)(w:World)(hB:B<=w.heap.size)(ha:eC w B va za)(sa:nl za.natAbs<=2147483648) :
  Calls ak 68 #[va] w (dJ w (-za)):=by
 obtain⟨s1,A,n,c,xs,rfl,hnc,hx,tx,rfl⟩:=ha;rw[fJ,<-aD hx tx]at sa;have HX:=ab hx;clear hx;have HTX:=ab tx;clear tx
 go_enter func68,ntmps68
 go_wp2_with fail
 obtain⟨hb0,k1,k3⟩:=rF w #[au s1,ao A n c] #[au false,ao none 0 0];generalize ((w.alloc (Obj.cells #[au s1,ao A n c] 50)).alloc (Obj.cells #[au false,ao none 0 0] 50))=W at hb0 k1 k3 ⊢;have HK:=ab k3;clear k3 k1;have HB0:=ab hb0;clear hb0;have hsz:w.heap.size+1<W.heap.size:=HK.out.lt;refine(lK (!s1) A n c B xs W hnc sa om (HX.out.below HB0.out hB)).mono ?_;rintro e w2 ⟨v,rfl,hI,hb2⟩;obtain⟨neg,A2,n2,c2,zs2,rfl,hI2⟩:=hI;have hblk:fX w2 (w.heap.size+1) 50 #[.bool false,.slice none 0 0]:=fX.below (w:=W) HK.out hb2 om;obtain⟨e0,e1⟩:=eW hblk;have f0:=hblk.frozen 0;have f1:=hblk.frozen 1;have HK2:=ab hblk;clear hblk;have HI:=ab hI2;clear hI2;have HB2:=ab hb2;clear hb2;go_wp2;exact cQ (v:=.agg #[.bool neg,.slice A2 n2 c2]) (by simp[results,results68,go_sem,e0,e1]) rfl
  (dJ.cell ⟨neg,A2,n2,c2,zs2,rfl,HI.out⟩ HK2.out (HB0.out.trans (HB2.out.mono (by first|omega|(simp;done)|(simp;omega)))) om (by rw[GA]))
def Lc(va:Value)(za:Int)(B:Nat)(w:World)(hB:B<=w.heap.size)(ha:eC w B va za)(sa:nl za.natAbs<=2147483648) :
  Calls ak 45 #[va] w (dJ w ((za.natAbs:Int))):=by
 obtain⟨s1,A,n,c,xs,rfl,hnc,hx,tx,rfl⟩:=ha;rw[fJ,<-aD hx tx]at sa;have HX:=ab hx;clear hx;have HTX:=ab tx;clear tx
 go_enter func45,ntmps45
 go_wp2_with fail
 obtain⟨hb0,k1,k3⟩:=rF w #[au s1,ao A n c] #[au false,ao none 0 0];generalize ((w.alloc (Obj.cells #[au s1,ao A n c] 50)).alloc (Obj.cells #[au false,ao none 0 0] 50))=W at hb0 k1 k3 ⊢;have HK:=ab k3;clear k3 k1;have HB0:=ab hb0;clear hb0;have hsz:w.heap.size+1<W.heap.size:=HK.out.lt;refine(lK false A n c B xs W hnc sa om (HX.out.below HB0.out hB)).mono ?_;rintro e w2 ⟨v,rfl,hI,hb2⟩;obtain⟨neg,A2,n2,c2,zs2,rfl,hI2⟩:=hI;have hblk:fX w2 (w.heap.size+1) 50 #[.bool false,.slice none 0 0]:=fX.below (w:=W) HK.out hb2 om;obtain⟨e0,e1⟩:=eW hblk;have f0:=hblk.frozen 0;have f1:=hblk.frozen 1;have HK2:=ab hblk;clear hblk;have HI:=ab hI2;clear hI2;have HB2:=ab hb2;clear hb2;go_wp2;exact cQ (v:=.agg #[.bool neg,.slice A2 n2 c2]) (by simp[results,results45,go_sem,e0,e1]) rfl
  (dJ.cell ⟨neg,A2,n2,c2,zs2,rfl,HI.out⟩ HK2.out (HB0.out.trans (HB2.out.mono (by first|omega|(simp;done)|(simp;omega)))) om (by rw[fJ];simp[sg]))
def xe(va:Value)(za:Int)(B:Nat)(w:World)(hB:B<=w.heap.size)(ha:eC w B va za)(sa:nl za.natAbs<=2147483648) :
  Calls ak 126 #[va] w (dJ w (za)):=by
 obtain⟨s1,A,n,c,xs,rfl,hnc,hx,tx,rfl⟩:=ha;rw[fJ,<-aD hx tx]at sa;have HX:=ab hx;clear hx;have HTX:=ab tx;clear tx
 go_enter func126,ntmps126
 go_wp2_with fail
 obtain⟨hb0,k1,k3⟩:=rF w #[au s1,ao A n c] #[au false,ao none 0 0];generalize ((w.alloc (Obj.cells #[au s1,ao A n c] 50)).alloc (Obj.cells #[au false,ao none 0 0] 50))=W at hb0 k1 k3 ⊢;have HK:=ab k3;clear k3 k1;have HB0:=ab hb0;clear hb0;have hsz:w.heap.size+1<W.heap.size:=HK.out.lt;refine(lK s1 A n c B xs W hnc sa om (HX.out.below HB0.out hB)).mono ?_;rintro e w2 ⟨v,rfl,hI,hb2⟩;obtain⟨neg,A2,n2,c2,zs2,rfl,hI2⟩:=hI;have hblk:fX w2 (w.heap.size+1) 50 #[.bool false,.slice none 0 0]:=fX.below (w:=W) HK.out hb2 om;obtain⟨e0,e1⟩:=eW hblk;have f0:=hblk.frozen 0;have f1:=hblk.frozen 1;have HK2:=ab hblk;clear hblk;have HI:=ab hI2;clear hI2;have HB2:=ab hb2;clear hb2;go_wp2;exact cQ (v:=.agg #[.bool neg,.slice A2 n2 c2]) (by simp[results,results126,go_sem,e0,e1]) rfl
  (dJ.cell ⟨neg,A2,n2,c2,zs2,rfl,HI.out⟩ HK2.out (HB0.out.trans (HB2.out.mono (by first|omega|(simp;done)|(simp;omega)))) om (rfl))
def tA(va:Value)(za:Int)(B:Nat)(w:World)(hB:B<=w.heap.size)(ha:eC w B va za)(sa:nl za.natAbs<=2147483648) :
  Calls ak 64 #[va] w fun e w'=>e=.returned (.int .i64 za.sign)/\Below w.heap.size w w':=by
 obtain⟨s1,A,n,c,xs,rfl,hnc,hx,tx,rfl⟩:=ha;rw[fJ,<-aD hx tx]at sa;have hb0:=(bG w.heap.size w).alloc (ag _) (Obj.cells #[au s1,ao A n c] 50);have hk:=fX.new w 50 #[au s1,ao A n c];have HU:=ab (hx.below hb0 hB);have HX:=ab hx;clear hx;have HTX:=ab tx;clear tx;have HN:=ab (aD HX.out HTX.out);have HC:=ab (nR s1 (bC xs));have HB0:=ab hb0;clear hb0;have HK:=ab hk;clear hk;generalize hr:(sg s1 (bC xs)).sign=r at HC;clear hr
 go_enter func64,ntmps64
 go_wp2_with fail
 refine(gC A n c B xs _ hnc sa (by simp;omega) HU.out).mono ?_
 rintro e w1 ⟨A1,k,c1,zs,rfl,hk,hU1,hT1,hv1,hb1⟩;have hkn:k=n:=by rw[aD hU1 hT1,hv1];exact HN.out.symm
 subst hkn;have hblk:=HK.out.below hb1 sm
 obtain⟨e0,e1⟩:=eW hblk;have HBB:=ab (HB0.out.trans (hb1.mono sm))
 clear hblk hb1 hU1 hT1 hv1;by_cases h0:k=0
 .subst h0;have hz:=LW HX.out rfl;have hr:r=0:=by have:=HC.out;omega
  clear hz;subst hr;go_wp2;go_ret;exact⟨rfl,HBB.out⟩
 .have hpos:0<bC xs:=by
   rcases bD (bC xs)with h|h
   .have h1:=HN.out;rw[h]at h1;have:nl 0=0:=by have:=jR.2 (om:0<4294967296^0);omega
    omega
   .exact h
  have h1:((k:Int)==0)=false:=by simp;omega
  cases s1
  .have hr:r=1:=by have:=HC.out;simp at this;omega
   subst hr;clear hpos;go_wp2;go_ret;exact⟨rfl,HBB.out⟩
  .have hr:r=-1:=by have:=HC.out;simp at this;omega
   subst hr;clear hpos;go_wp2;go_ret;exact⟨rfl,HBB.out⟩
def l5(A B:Option Addr)(n m c d L:Nat)(xs ys:List Nat)(w:World)(hn:n<=9223372036854775807)(hm:m<=9223372036854775807)(hx:cE w L A n xs)(hy:cE w L B m ys)(tx:pg xs)(ty:pg ys) :
  Calls ak 70 #[.slice A n c,.slice B m d] w fun e w'=>e=.returned (.int .i64 (lg (bC xs) (bC ys)))/\dW w w':=by
 have HX:=ab hx;clear hx;have HY:=ab hy;clear hy;have TX:=ab tx;clear tx;have TY:=ab ty;clear ty;by_cases h1:n<m
 .have hr:=ab (lE (ql HX.out.2.1 TY.out (by rw[HX.out.1,HY.out.1];exact h1)))
  have hne:((n:Int) != (m:Int))=true:=by simp;omega
  have hne2:¬(n:Int)=m:=om
  go_enter func70,ntmps70
  go_wp2;go_ret;exact⟨by rw[hr.out];rfl,dW.refl _⟩
 by_cases h2:m<n
 .have hr:=ab (kD (ql HY.out.2.1 TX.out (by rw[HX.out.1,HY.out.1];exact h2)))
  have hne:((n:Int) != (m:Int))=true:=by simp;omega
  have hne2:¬(n:Int)=m:=om
  go_enter func70,ntmps70
  go_wp2;go_ret;exact⟨by rw[hr.out];rfl,dW.refl _⟩
 obtain rfl:n=m:=om
 go_enter func70,ntmps70
 go_wp2
 go_loopw [5] (fun iv wr=>∃(k:Nat),k<=n/\iv=.int .i64 ((k:Int)-1)/\Hid (dW w wr)/\Hid (xs.drop k=ys.drop k)) (fun iv _=>(intOf iv+1).toNat)
 case atStart=>exact⟨n,om,rfl,ab (dW.refl w),ab (by rw[kF (by rw[HX.out.1];omega),kF (by rw[HY.out.1];omega)])⟩
 case round =>
  obtain⟨k,hk,rfl,HQ,HD⟩:=hrel;by_cases h0:k=0
  .subst h0;have hr:=ab (lF (show bC xs=bC ys by have:=HD.out;simp only[yY]at this;rw[this]))
   go_wp2;go_ret;exact⟨by rw[hr.out];rfl,HQ.out⟩
  .obtain⟨i,rfl⟩:∃i,k=i+1:=⟨k-1,om⟩
   obtain⟨ad,x,rfl,_,hxx,hx4,h3⟩:=(HX.out.still HQ.out).at_ (k:=i) om;obtain⟨bd,y,rfl,_,hyy,hy4,h4⟩:=(HY.out.still HQ.out).at_ (k:=i) om;have HXX:=ab hxx;clear hxx;have HYY:=ab hyy;clear hyy;have e1:((i+1:Nat):Int)-1=(i:Int):=om
   rw[e1];clear e1;have hi0:(0:Int)<=i:=om
   have hin:(i:Int)<n:=om
   rcases c8 x y with hlt|heq|hgt
   .have hr:=ab (lE (rU HX.out.2.1 (i:=i) (by rw[HX.out.1];omega) (by rw[HX.out.1,HY.out.1]) HD.out (by rw[HXX.out,HYY.out];exact hlt)))
    have hne:((x:Int) != (y:Int))=true:=by simp;omega
    have hne2:¬(x:Int)=y:=om
    go_wp2
    go_quiet (fail)
    go_wp2
    go_quiet (fail)
    go_wp2;go_ret;exact⟨by rw[hr.out];rfl,by repeat' (first|exact HQ.out|apply dW.more)⟩
   .subst heq;go_wp2
    go_quiet (fail)
    go_wp2
    go_roundw
    case rel=>exact⟨i,om,rfl,ab (by repeat' (first|exact HQ.out|apply dW.more)),ab (by rw[sf (by rw[HX.out.1];omega),sf (xs:=ys) (by rw[HY.out.1];omega),HXX.out,HYY.out,HD.out])⟩
    case measure=>simp[intOf]
   .have hr:=ab (kD (rU HY.out.2.1 (i:=i) (by rw[HY.out.1];omega) (by rw[HX.out.1,HY.out.1]) HD.out.symm (by rw[HXX.out,HYY.out];exact hgt)))
    have hne:((x:Int) != (y:Int))=true:=by simp;omega
    have hne2:¬(x:Int)=y:=om
    go_wp2
    go_quiet (fail)
    go_wp2
    go_quiet (fail)
    go_wp2;go_ret;exact⟨by rw[hr.out];rfl,by repeat' (first|exact HQ.out|apply dW.more)⟩

def QA(w wr:World)(e:TypeId)(size:Nat)(v:Value)(n:Nat)(cs:List Value):Prop:=wr.ownsRow w.heap.size e size v n cs/\Below w.heap.size w wr
def QA.start(w:World)(e:TypeId)(size:Nat):QA w w e size (.slice none 0 0) 0 []:=⟨H8 w _ e size,bG _ _⟩
def Ez{P:Program}{a:Act}(d:o.guard=none)(s x:Operand)(t:TypeId)
  (p:o.op=.call { callee:=.builtin .append,args:=#[s,x],argTypes:=#[t,t] })
  (e:TypeId) (i:TypeInfo) (z:Value) (size bytes:Nat) (q:P.underlying t=some (.slice e)) (r:P.info? e=some i) (y:i.zero=some z)
  (hsize:i.size=size) (f:i.bytes=bytes) (j:z.cells.size=size) (k:0<size)
  (w wr:World) (v:Value) (n:Nat) (cs:List Value) (A:a.eval s=v) (b:QA w wr e size v n cs)
  (new:Array Value) (c:Nat) (B:a.eval x=.slice (some ⟨wr.heap.size,0,none⟩) 1 c) (C:new.size=size) (D:∀u∈new.toList,u.oneCell'=true)
  (l:n+1<=maxLen) (hbytes:(n+1)*bytes<=140737488355328)
  (h:∀v' w',QA w w' e size v' (n+1) (cs++new.toList)->wpList P ops Q rest (a.put o.dst v') w') :
  wpList P ops Q (o::rest) a (wr.alloc (.cells new e)):=by
 have m:=b.2.alloc b.2.size (Obj.cells new e);refine qi _ d s x t p w.heap.size e i z size bytes q r y hsize f j k v n cs A (b.1.alloc _) ⟨wr.heap.size,0,none⟩ 1 c new.toList B (by simpa using C) (World.news_of_block (jB wr _)) D l hbytes m.size ?_
 intro v' w' E F _ _;refine h v' w' ⟨E,m.trans (ku F m.size ?_)⟩;intro g G;exact(b.1.lt g G).1
def jq(l:List Nat)(k:Nat):bC (l.take (k+1))=bC (l.take k)+4294967296^k*l.getD k 0:=by
 rcases aB k l.length with h|h
 .exact dZ l k h
 .rw[bS h,bS om];simp[df,dX h]
def Id(w:World)(v len:Nat)(e:Ending)(w':World):Prop :=
 ∃(A:Option Addr) (n c:Nat) (zs:List Nat),e=.returned (.slice A n c)/\n<=c/\n<=len/\cE w' w'.heap.size A n zs/\bC zs=v/\Below w.heap.size w w'
def Bo(zs:List Nat)(x:Nat):jS zs++(#[dx .u32 x]:Array Value).toList=jS (zs++[x]):=by simp[jS]
def QA.slice{e:TypeId}{size:Nat}{cs:List Value}(h:QA w wr e size v n cs):∃A c,v=.slice A n c:=by
 rcases h.1.2 with⟨h,a⟩|⟨g,cap,_,h,_⟩
 .exact⟨none,0,by rw[h,a]⟩
 .exact⟨_,_,h⟩
def AU(w wr:World)(v:Value)(zs:List Nat):Prop:=QA w wr 136 1 v zs.length (jS zs)
def AU.start(w:World):AU w w (.slice none 0 0) []:=QA.start w 136 1
def gX{a:Act}(d:o.guard=none)(s x:Operand)
  (f:o.op=.call { callee:=.builtin .append,args:=#[s,x],argTypes:=#[48,48] })
  (w wr:World) (v:Value) (zs:List Nat) (g:a.eval s=v) (b:AU w wr v zs) (y:Nat)
  (c:Nat) (i:a.eval x=.slice (some ⟨wr.heap.size,0,none⟩) 1 c) (j:zs.length<=4294967296)
  (h:∀v' w',AU w w' v' (zs++[y])->wpList ak ops Q rest (a.put o.dst v') w') :
  wpList ak ops Q (o::rest) a (wr.alloc (.cells #[.int .u32 (y:Int)] 136)):=by
 refine Ez d s x 48 f 136 Tryz.t136 (.int .u32 0) 1 4 fO G6 Gm GE Hs rfl om w wr v zs.length (jS zs) g b #[.int .u32 y] c i rfl (by simp[Value.oneCell']) (by simp[maxLen];omega) om ?_
 intro v' w' e;rw[Bo]at e;exact h v' w' (by simpa [AU]using e)

structure PC(xs ys zs:List Nat)(k car:Nat):Prop where
 len:zs.length=k
 lim:mX zs
 eq:bC zs+car*4294967296^k=bC (xs.take k)+bC (ys.take k)
 car:car<=1
def PC.step(h:PC xs ys zs k car)(b:xs.getD k 0=x)(c:ys.getD k 0=y)(d:x<4294967296)(e:y<4294967296) :
  PC xs ys (zs++[(car+x+y)%4294967296]) (k+1) ((car+x+y)/4294967296):=by
 have f:=h.car;refine⟨by simp[h.len],h.lim.snoc (di _ om),?_,om⟩
 rw[iC,h.len,jq,jq,b,c,bZ];have a:=rH (x:=x) (y:=y) h.eq;rw[<-kS]at a;exact a
def NV(A B:Option Addr)(n m c d L:Nat)(xs ys:List Nat)(w:World)(hn:n<=2147483648)(hm:m<=2147483648)(hL:L<=w.heap.size)(hx:cE w L A n xs)(hy:cE w L B m ys) :
  Calls ak 145 #[.slice A n c,.slice B m d] w (Id w (bC xs+bC ys) (max n m+1)):=by
 have HX:=ab hx;clear hx;have HY:=ab hy;clear hy
 go_enter func145,ntmps145
 go_wp2
 go_loopw [5,6,7] (fun ov cv iv wr=>∃(k car:Nat) (zs:List Nat),k<=max n m/\iv=.int .i64 k/\cv=.int .u64 car/\car<=1/\Hid (AU w wr ov zs)/\Hid (PC xs ys zs k car)) (fun _ _ iv _=>max n m-(intOf iv).toNat)
 case atStart=>exact⟨0,0,[],om,rfl,rfl,om,ab (AU.start w),ab ⟨rfl,by simp[mX],by simp[bC],om⟩⟩
 case round =>
  obtain⟨k,car,zs,hk,rfl,rfl,hcar,HO,HS⟩:=hrel;have hzl:=HS.out.len;have hk0:(0:Int)<=k:=om
  by_cases hkn:k<n
  .obtain⟨ad,x,rfl,hab,hxx,hx4,h1⟩:=(HX.out.below HO.out.2 hL).at_ (k:=k) hkn;have HXX:=ab hxx;clear hxx;have hkn':(k:Int)<n:=om
   by_cases hkm:k<m
   .obtain⟨bd,y,rfl,hbb,hyy,hy4,h2⟩:=(HY.out.below HO.out.2 hL).at_ (k:=k) hkm;have HYY:=ab hyy;clear hyy;have hkm':(k:Int)<m:=om
    have HPI:Hid (((car:Int)+(x:Int)+(y:Int))%4294967296=((((car+x+y)%4294967296:Nat)):Int)):=ab om
    go_wp2_with (at_builtin;rw[HPI.out];refine gX rfl _ _ rfl w _ _ zs rfl HO.out ((car+x+y)%4294967296) _ rfl om ?_)
    intro v' w1 hO;have HO1:=ab hO;clear hO;go_wp2
    go_roundw
    case rel=>exact⟨k+1,(car+x+y)/4294967296,_,om,by go_num,by go_num,om,HO1,ab (HS.out.step HXX.out HYY.out hx4 hy4)⟩
    case measure=>simp[intOf];omega
   .have hkm':¬(k:Int)<m:=om
    have hy0:ys.getD k 0=0:=by simp[df,dX (show ys.length<=k by rw[HY.out.1];omega)]
    have HY0:=ab hy0;clear hy0;have HPI:Hid (((car:Int)+(x:Int))%4294967296=((((car+x+0)%4294967296:Nat)):Int)):=ab om
    go_wp2_with (at_builtin;rw[HPI.out];refine gX rfl _ _ rfl w _ _ zs rfl HO.out ((car+x+0)%4294967296) _ rfl om ?_)
    intro v' w1 hO;have HO1:=ab hO;clear hO;go_wp2
    go_roundw
    case rel=>exact⟨k+1,(car+x+0)/4294967296,_,om,by go_num,by go_num,om,HO1,ab (HS.out.step HXX.out HY0.out hx4 om)⟩
    case measure=>simp[intOf];omega
  .have hkn':¬(k:Int)<n:=om
   have hkn2:decide ((k:Int)<n)=false:=by simpa using hkn'
   by_cases hkm:k<m
   .obtain⟨bd,y,rfl,hbb,hyy,hy4,h2⟩:=(HY.out.below HO.out.2 hL).at_ (k:=k) hkm;have HYY:=ab hyy;clear hyy;have hkm':(k:Int)<m:=om
    have hx0:xs.getD k 0=0:=by simp[df,dX (show xs.length<=k by rw[HX.out.1];omega)]
    have HX0:=ab hx0;clear hx0;have HPI:Hid (((car:Int)+(y:Int))%4294967296=((((car+0+y)%4294967296:Nat)):Int)):=ab om
    go_wp2_with (at_builtin;rw[HPI.out];refine gX rfl _ _ rfl w _ _ zs rfl HO.out ((car+0+y)%4294967296) _ rfl om ?_)
    intro v' w1 hO;have HO1:=ab hO;clear hO;go_wp2
    go_roundw
    case rel=>exact⟨k+1,(car+0+y)/4294967296,_,om,by go_num,by go_num,om,HO1,ab (HS.out.step HX0.out HYY.out om hy4)⟩
    case measure=>simp[intOf];omega
   .have hkm':¬(k:Int)<m:=om
    have hci:(car:Int)%4294967296=(car:Int):=om
    go_wp2_with (at_builtin;refine gX rfl _ _ rfl w _ _ zs rfl HO.out car _ rfl om ?_)
    intro v' w1 hO;obtain⟨A',c',rfl⟩:=hO.slice;obtain⟨hU,hc⟩:=cE.ofOwn hO.1 (HS.out.lim.snoc om);have HU:=ab hU;have HB:=ab hO.2;have hv:bC (zs++[car])=bC xs+bC ys:=by
     have h5:=HS.out.eq;rw[bS (l:=xs) (by rw[HX.out.1];omega),bS (l:=ys) (by rw[HY.out.1];omega)]at h5
     rw[iC,HS.out.len,<-h5,aA]
    have HV:=ab hv;clear hU hO hv;go_wp2;go_ret;exact⟨_,_,_,_,rfl,hc,by simp[hzl];omega,HU.out,HV.out,HB.out⟩

structure Bc(xs ys zs:List Nat)(k bo:Nat):Prop where
 len:zs.length=k
 lim:mX zs
 eq:bC zs+bC (ys.take k)=bC (xs.take k)+bo*4294967296^k
 bo:bo<=1
def Bc.less(h:Bc xs ys zs k bo)(d:xs.getD k 0=x)(e:ys.getD k 0=y)(l:x<4294967296)(m:y<4294967296)(n:x<bo+y) :
  Bc xs ys (zs++[x+4294967296-(bo+y)]) (k+1) 1:=by
 have o:=h.bo;refine⟨by simp[h.len],h.lim.snoc om,?_,om⟩
 rw[iC,h.len,jq,jq,d,e,bZ];have f:=h.eq;obtain⟨z,g⟩:∃z,x+4294967296-(bo+y)=z:=⟨_,rfl⟩;have i:z+bo+y=x+4294967296:=om
 rw[g];generalize (4294967296:Nat)^k=p at *;generalize bC zs=a at *;generalize bC (ys.take k)=b at *;generalize bC (xs.take k)=c at *;have j:p*(z+bo+y)=p*(x+4294967296):=by rw[i]
 simp only[bV]at j;rw[aA bo p]at f;omega
def Bc.more(h:Bc xs ys zs k bo)(d:xs.getD k 0=x)(e:ys.getD k 0=y)(l:x<4294967296)(m:bo+y<=x) :
  Bc xs ys (zs++[x-(bo+y)]) (k+1) 0:=by
 have n:=h.bo;refine⟨by simp[h.len],h.lim.snoc om,?_,om⟩
 rw[iC,h.len,jq,jq,d,e,bZ];have f:=h.eq;obtain⟨z,g⟩:∃z,x-(bo+y)=z:=⟨_,rfl⟩;have i:z+bo+y=x:=om
 rw[g];generalize (4294967296:Nat)^k=p at *;generalize bC zs=a at *;generalize bC (ys.take k)=b at *;generalize bC (xs.take k)=c at *;have j:p*(z+bo+y)=p*x:=by rw[i]
 simp only[bV]at j;rw[aA bo p]at f;omega
def lC(A B:Option Addr)(n m c d L:Nat)(xs ys:List Nat)(w:World)(hmn:m<=n)(hn:n<=2147483648)(hL:L<=w.heap.size)(hx:cE w L A n xs)(hy:cE w L B m ys)(hle:bC ys<=bC xs) :
  Calls ak 146 #[.slice A n c,.slice B m d] w (Id w (bC xs-bC ys) n):=by
 have HX:=ab hx;clear hx;have HY:=ab hy;clear hy;have HLE:=ab hle;clear hle
 go_enter func146,ntmps146
 go_wp2
 go_loopw [5,6,7] (fun ov cv iv wr=>∃(k bo:Nat) (zs:List Nat),k<=n/\iv=.int .i64 k/\cv=.int .u64 bo/\bo<=1/\Hid (AU w wr ov zs)/\Hid (Bc xs ys zs k bo)) (fun _ _ iv _=>n-(intOf iv).toNat)
 case atStart=>exact⟨0,0,[],om,rfl,rfl,om,ab (AU.start w),ab ⟨rfl,by simp[mX],by simp[bC],om⟩⟩
 case round =>
  obtain⟨k,bo,zs,hk,rfl,rfl,hbo,HO,HS⟩:=hrel;have hzl:=HS.out.len;have hk0:(0:Int)<=k:=om
  by_cases hkn:k<n
  .obtain⟨ad,x,rfl,hab,hxx,hx4,h1⟩:=(HX.out.below HO.out.2 hL).at_ (k:=k) hkn;have HXX:=ab hxx;clear hxx;have hkn':(k:Int)<n:=om
   by_cases hkm:k<m
   .obtain⟨bd,y,rfl,hbb,hyy,hy4,h2⟩:=(HY.out.below HO.out.2 hL).at_ (k:=k) hkm;have HYY:=ab hyy;clear hyy;have hkm':(k:Int)<m:=om
    by_cases hlt:x<bo+y
    .have hl2:(x:Int)<(bo:Int)+(y:Int):=om
     have HPI:Hid (IntKind.u64.wrap ((x:Int)-((bo:Int)+(y:Int)))%4294967296=(((x+4294967296-(bo+y):Nat)):Int)):=ab (by rw[ci];omega)
     have HPJ:Hid (((x:Int)-((bo:Int)+(y:Int)))%4294967296=(((x+4294967296-(bo+y):Nat)):Int)):=ab om
     go_wp2_with (at_builtin;(first|rw[HPI.out]|rw[HPJ.out]);refine gX rfl _ _ rfl w _ _ zs rfl HO.out (x+4294967296-(bo+y)) _ rfl om ?_)
     intro v' w1 hO;have HO1:=ab hO;clear hO;obtain⟨ad',x',e1,_,e2,_,h1'⟩:=(HX.out.below HO1.out.2 hL).at_ (k:=k) hkn
     cases e1
     rw[HXX.out]at e2;subst e2;go_wp2
     go_roundw
     case rel=>exact⟨k+1,1,_,om,by go_num,rfl,om,HO1,ab (HS.out.less HXX.out HYY.out hx4 (hy4) hlt)⟩
     case measure=>simp[intOf];omega
    .have hl2:¬(x:Int)<(bo:Int)+(y:Int):=om
     have HPI:Hid (IntKind.u64.wrap ((x:Int)-((bo:Int)+(y:Int)))%4294967296=(((x-(bo+y):Nat)):Int)):=ab (by rw[ci];omega)
     have HPJ:Hid ((x:Int)-((bo:Int)+(y:Int))=(((x-(bo+y):Nat)):Int)):=ab om
     go_wp2_with (at_builtin;(first|rw[HPI.out]|rw[HPJ.out]);refine gX rfl _ _ rfl w _ _ zs rfl HO.out (x-(bo+y)) _ rfl om ?_)
     intro v' w1 hO;have HO1:=ab hO;clear hO;obtain⟨ad',x',e1,_,e2,_,h1'⟩:=(HX.out.below HO1.out.2 hL).at_ (k:=k) hkn
     cases e1
     rw[HXX.out]at e2;subst e2;go_wp2
     go_roundw
     case rel=>exact⟨k+1,0,_,om,by go_num,rfl,om,HO1,ab (HS.out.more HXX.out HYY.out hx4 om)⟩
     case measure=>simp[intOf];omega
   .have hkm':¬(k:Int)<m:=om
    have hy0:ys.getD k 0=0:=by simp[df,dX (show ys.length<=k by rw[HY.out.1];omega)]
    have HY0:=ab hy0;clear hy0;by_cases hlt:x<bo+0
    .have hl2:(x:Int)<(bo:Int):=om
     have HPI:Hid (IntKind.u64.wrap ((x:Int)-((bo:Int)))%4294967296=(((x+4294967296-(bo+0):Nat)):Int)):=ab (by rw[ci];omega)
     have HPJ:Hid (((x:Int)-((bo:Int)))%4294967296=(((x+4294967296-(bo+0):Nat)):Int)):=ab om
     go_wp2_with (at_builtin;(first|rw[HPI.out]|rw[HPJ.out]);refine gX rfl _ _ rfl w _ _ zs rfl HO.out (x+4294967296-(bo+0)) _ rfl om ?_)
     intro v' w1 hO;have HO1:=ab hO;clear hO;obtain⟨ad',x',e1,_,e2,_,h1'⟩:=(HX.out.below HO1.out.2 hL).at_ (k:=k) hkn
     cases e1
     rw[HXX.out]at e2;subst e2;go_wp2
     go_roundw
     case rel=>exact⟨k+1,1,_,om,by go_num,rfl,om,HO1,ab (HS.out.less HXX.out HY0.out hx4 om hlt)⟩
     case measure=>simp[intOf];omega
    .have hl2:¬(x:Int)<(bo:Int):=om
     have HPI:Hid (IntKind.u64.wrap ((x:Int)-((bo:Int)))%4294967296=(((x-(bo+0):Nat)):Int)):=ab (by rw[ci];omega)
     have HPJ:Hid ((x:Int)-((bo:Int))=(((x-(bo+0):Nat)):Int)):=ab om
     go_wp2_with (at_builtin;(first|rw[HPI.out]|rw[HPJ.out]);refine gX rfl _ _ rfl w _ _ zs rfl HO.out (x-(bo+0)) _ rfl om ?_)
     intro v' w1 hO;have HO1:=ab hO;clear hO;obtain⟨ad',x',e1,_,e2,_,h1'⟩:=(HX.out.below HO1.out.2 hL).at_ (k:=k) hkn
     cases e1
     rw[HXX.out]at e2;subst e2;go_wp2
     go_roundw
     case rel=>exact⟨k+1,0,_,om,by go_num,rfl,om,HO1,ab (HS.out.more HXX.out HY0.out hx4 om)⟩
     case measure=>simp[intOf];omega
  .have hkn':¬(k:Int)<n:=om
   obtain rfl:k=n:=om
   obtain⟨A',c',rfl⟩:=HO.out.slice;obtain⟨hU,hc⟩:=cE.ofOwn HO.out.1 HS.out.lim;rw[hzl]at hU hc;have HU:=ab hU;have HB:=ab HO.out.2;have hv:bC zs=bC xs-bC ys:=by
    have h5:=HS.out.eq;rw[bS (l:=xs) (by rw[HX.out.1];omega),bS (l:=ys) (by rw[HY.out.1];omega)]at h5
    have h6:=HLE.out;have h7:=ju HS.out.lim;rw[HS.out.len]at h7;rcases bD bo with h0|h0
    .subst h0;omega
    .obtain rfl:bo=1:=om
     omega
   have HV:=ab hv;clear hU hv;go_wp2;go_ret;exact⟨_,_,_,_,rfl,hc,om,HU.out,HV.out,HB.out⟩

end Go.Proofs.YtdobfmlmenaajaaGreatDoor
