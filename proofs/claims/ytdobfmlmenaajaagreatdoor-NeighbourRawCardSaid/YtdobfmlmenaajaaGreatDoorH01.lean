/-
  Lemmas for NeighbourRaw.
-/
import Derived.Test.YtdobfmlmenaajaaGreatDoorProg
import Derived.WalkKit
import Derived.WalkLawsBesides
import Derived.WalkSpells
import Derived.Below
import Derived.Lib.Hide
import Derived.Laws.MakeOwn
import Derived.Laws.OwnMore
import Derived.Laws.NewBlocks
import Derived.Laws.Rows
import Derived.Deep.Draws
import Derived.Deep.QuietTactic
import Derived.BigQuiet
import Derived.Outline
import Derived.KernelRfl
import Derived.Laws.BitsAllLaws
import Derived.Laws.BitsAll
import Derived.StillTailTactics
import Derived.Deep.RegionHeld3
namespace Go.Proofs.YtdobfmlmenaajaaGreatDoor
open Go.RowKit Tryz
open _root_.List renaming replicate→bU,getD→cT
open Tryz renaming prog→ah
open Value renaming slice→ao,bool→aq,int→dA
set_option maxHeartbeats 6400000
set_option maxRecDepth 4096
set_option linter.all false
theorem an{a b:Prop}(h:b)(k:a:=by omega):a∧b:=⟨k,h⟩
theorem om{p:Prop}(h:p:=by omega):p:=h
theorem nn{a b:Nat}(h:a≠b):a≠b∧b≠a:=⟨h,Ne.symm h⟩
theorem kr{p:Prop}(h:p:=by kernel_rfl):p:=h
theorem sm{p:Prop}(h:p:=by simp):p:=h
theorem dc{p:Prop}(h:p:=by decide):p:=h
def aa:=@Nat.add_one_le_iff
def ac:=@Go.Lib.hid
def ae:=@Nat.le_refl
def af:=@if_neg
def ai:=@if_pos
def aj:=@Ne.symm
def ak:=@Nat.eq_of_beq_eq_true
def au:=@Bool.and_eq_true
def aA:=@Nat.mul_comm
def aB:=@Nat.mul_le_mul_right
def aC:=@Nat.lt_or_ge
def aD:=@Nat.zero_add
def aG:=@List.all_eq_true
def aL:=@Int.tmod_eq_emod_of_nonneg
def aM:=@Nat.mul_le_mul_left
def aQ:=@if_true
def aS:=@if_false
def aV:=@Int.emod_lt_of_pos
def aW:=@Int.emod_nonneg
def aX:=@Go.RowKit.Below.refl
def aY:=@bne_self_eq_false
def a6:=@Nat.eq_zero_or_pos
def a8:=@List.getElem?_eq_getElem
def a9:=@Nat.mul_le_mul
def bn:=@List.forall_mem_cons
def bC:=@Nat.mul_assoc
def bD:=@Int.natCast_mul
def bF:=@Or.inl
def bG:=@List.getD_cons_succ
def bH:=@Or.inr
def bJ:=@Bool.false_eq_true
def bL:=@Go.run_underlying
def bO:=@List.getD_cons_zero
def bQ:=@Nat.le_trans
def bR:=@List.take_of_length_le
def bS:=@List.not_mem_nil
def bV:=@Int.mul_le_mul_of_nonneg_left
def ca:=@Int.mul_le_mul_of_nonneg_right
def cb:=@Nat.pow_succ
def cf:=@Go.IntKind.wrap_u64
def cg:=@Nat.mul_add
def ci:=@List.getElem?_cons_succ
def ck:=@Int.le_of_lt
def co:=@List.size_toArray
def cp:=@Nat.pow_le_pow_right
def cq:=@List.length_cons
def ct:=@Nat.sub_self
def cu:=@Nat.le_of_ble_eq_true
def cw:=@Array.getElem?_eq_getElem
def cA:=@Int.natCast_nonneg
def cB:=@false_implies
def cC:=@Int.toNat_natCast
def cF:=@Nat.add_zero
def cH:=@List.getElem?_eq_none
def cI:=@Go.bodyPost_ret
def cJ:=@Int.natAbs_mul
def cK:=@Int.mul_nonneg
def cM:=@implies_true
def cN:=@Int.mul_le_mul
def cO:=@Array.getD_eq_getD_getElem?
def cU:=@List.map_cons
def cV:=@Option.map_eq_some_iff
def cW:=@Nat.succ_mul
def cX:=@Int.mul_comm
def cY:=@Int.toNat_of_nonneg
def cZ:=@Nat.lt_irrefl
def c8:=@List.getElem?_cons_zero
def dd:=@Nat.div_add_mod
def de:=@Classical.choose_spec
def dh:=@Int.mul_ediv_cancel_left
def di:=@Int.dvd_mul_of_dvd_right
def dj:=@Nat.mod_lt
def dl:=@Int.sign_eq_one_of_pos
def dp:=@beq_self_eq_true
def du:=@Option.map_some
def dw:=@Int.emod_eq_zero_of_dvd
def dB:=@Nat.le_of_lt
def dC:=@Int.emod_add_mul_ediv
def dD:=@List.flatMap_cons
def dE:=@Option.bind_some
def dF:=@Nat.lt_of_lt_of_le
def dM:=@Nat.add_mul
def dN:=@Int.eq_of_mul_eq_mul_left
def dR:=@Array.getElem?_setIfInBounds_ne
def dS:=@Nat.mul_zero
def dT:=@List.mem_cons_of_mem
def dX:=@Nat.mod_eq_of_lt
def dY:=@Nat.lt_trichotomy
def dZ:=@Int.emod_eq_of_lt
def ee:=@Nat.lt_of_le_of_lt
def ef:=@List.getElem?_append_right
def eg:=@Int.dvd_of_emod_eq_zero
def er:=@List.getElem?_eq_some_iff
def et:=@List.getElem?_append_left
def ez:=@Classical.byContradiction
def eB:=@Int.natCast_add
def eC:=@Array.getElem?_eq_none
def eG:=@Go.RowKit.Below.setCell
def eH:=@List.mem_cons_self
def eN:=@Nat.mul_succ
def eO:=@Nat.div_eq_of_lt
def eP:=@Int.sign_eq_neg_one_of_neg
def eQ:=@Int.dvd_mul_of_dvd_left
def eR:=@Array.getElem?_append_left
def eU:=@Option.some.injEq
def fq:=@Nat.sub_zero
def fv:=@List.getElem?_take_of_lt
def fA:=@Int.one_mul
def fC:=@List.getElem?_toArray
def fE:=@Int.pow_succ
def fF:=@Int.lt_trichotomy
def fJ:=@Nat.pow_add
def fK:=@Nat.add_sub_cancel
def fL:=@List.mem_of_getElem?
def fM:=@Int.tdiv_eq_ediv_of_nonneg
def fN:=@Int.natAbs_natCast
def fO:=@Array.getElem?_eq_some_iff
def fR:=@List.length_nil
def fV:=@Go.Proofs.Tryz.underlying48
def fW:=@Option.getD_some
def fX:=@Int.mul_emod
def gE:=@decide_eq_true_eq
def gH:=@List.eq_of_mem_replicate
def gK:=@Nat.div_le_self
def gL:=@Int.le_trans
def gM:=@Bool.or_eq_true
def gO:=@Nat.pos_of_ne_zero
def gP:=@Array.ext'
def gS:=@List.length_take
def ib:=@Prod.mk.injEq
def ic:=@of_decide_eq_true
def ie:=@List.mem_map
def ig:=@List.getD_eq_getElem?_getD
def ij:=@Array.size_append
def il:=@beq_eq_false_iff_ne
def im:=@Bool.or_eq_true_iff
def ip:=@Go.Result.andThen_ok
def iq:=@Option.map_none
def ir:=@Nat.min_eq_left
def ix:=@Int.le_of_mul_le_mul_left
def iD:=@Array.getElem?_setIfInBounds_self_of_lt
def iJ:=@Classical.em
def iK:=@Nat.pow_pos
def iL:=@Int.mul_ediv_cancel'
def iV:=@not_false_eq_true
def iY:=@Nat.two_pow_pos
def je:=@Int.dvd_zero
def jf:=@Int.dvd_refl
def jn:=@Int.mul_assoc
def jq:=@List.mem_range
def jz:=@Int.natAbs_dvd_natAbs
def jC:=@Go.heap_alloc_new
def jD:=@Int.natAbs_ediv_le_natAbs
def jH:=@List.cons.injEq
def jI:=@Int.mul_eq_zero
def jL:=@congrArg
def jM:=@Nat.zero_le
def jO:=@Nat.pow_lt_pow_right
def jP:=@Int.dvd_add
def jZ:=@Go.Sem.run_bind
def kb:=@List.replicate_succ
def kc:=@true_and
def kd:=@Int.toNat_zero
def kC:=@Nat.shiftLeft_add_eq_or_of_lt
def kF:=@Nat.add_comm
def kG:=@List.drop_of_length_le
def kH:=@Int.ofNat_le
def kN:=@Option.some.inj
def kO:=@Nat.mul_add_div
def kW:=@Nat.add_assoc
def lc:=@List.length_replicate
def ld:=@Array.getElem?_append
def lk:=@List.getElem?_map
def ll:=@Bool.not_eq_true'
def lz:=@Int.emod_emod_of_dvd
def lN:=@List.map_nil
def lO:=@List.cons_append
def lP:=@Int.natCast_emod
def lQ:=@Int.natCast_ediv
def lS:=@Int.sign_eq_zero_iff_zero
def lW:=@List.map_congr_left
def lY:=@Int.natAbs_mul_self
def me:=@Go.IntKind.wrap_i64
def mt:=@Int.le_of_dvd
def mK:=@Nat.mul_add_mod
def mL:=@Int.ediv_nonneg
def mM:=@Nat.lt_or_gt_of_ne
def mO:=@Bool.false_ne_true
def mW:=@Nat.one_mul
def mX:=@List.length_eq_zero_iff
def m9:=@Int.mul_neg
def nG:=@decide_eq_true
def nI:=@Go.Proofs.Tryz.underlying2
def nJ:=@List.take_succ_eq_append_getElem
def oI:=@Nat.blt_eq
def oJ:=@Int.ediv_le_self
def o0:=@Int.mul_pos
def o5:=@Int.le_refl
def o6:=@Int.ediv_emod_unique
def pJ:=@decide_eq_false
def pK:=@List.mem_filter
def pL:=@Int.neg_mul_neg
def pM:=@Go.wpList_append_own_at
def qA:=@Nat.zero_mul
def qB:=@Nat.mul_lt_mul_of_pos_right
def qF:=@Int.lt_or_le
def qO:=@List.getElem?_take
def qP:=@List.getElem?_drop
def qQ:=@Int.ofNat_tmod
def qR:=@Int.add_mul_emod_self_left
def qS:=@Bool.not_false
def qT:=@Array.ext_getElem?
def rY:=@List.drop_eq_getElem_cons
def r7:=@Go.Proofs.Tryz.ntmps216
def r8:=@Nat.sub_sub
def r9:=@Nat.mul_one
def sd:=@Int.neg_mul
def se:=@Int.mul_sub
def sf:=@Int.mul_one
def sJ:=@List.mem_cons
def sK:=@Int.sign_zero
def tu:=@Nat.shiftLeft_eq
def tv:=@Nat.le_mul_of_pos_right
def tw:=@List.getElem?_replicate
def tz:=@Int.eq_ofNat_of_zero_le
def vu:=@beq_iff_eq
def vA:=@Go.Proofs.Tryz.func216
def vB:=@Nat.le_of_eq
def vC:=@Int.zero_mul
def vD:=@Int.mul_zero
def wJ:=@List.nodup_cons
def wK:=@List.nil_append
def wN:=@List.append_nil
def wT:=@Int.natCast_one
def xN:=@Go.Proofs.Tryz.underlying195
def xS:=@Nat.div_lt_iff_lt_mul
def xT:=@List.take_append_drop
def xV:=@Int.mul_tdiv_add_tmod
def xW:=@Int.mul_ediv_add_emod
def ya:=@Go.RowKit.Below.trod
def yc:=@Go.u64_or_nat
def yn:=@Go.Code.wp_mono
def yN:=@and_true
def yP:=@Nat.testBit_or
def yQ:=@List.getElem?_set_ne
def yR:=@List.drop_zero
def yS:=@Int.add_mul
def AQ:=@Go.Proofs.Tryz.func17
def AY:=@Go.Lib.run_eql_slice_nil
def Bf:=@And.intro
def Bh:=@Nat.pow_le_pow_left
def Bi:=@List.filterMap_cons
def BE:=@Go.World.cell?_of_block
def BK:=@Nat.le_of_dvd
def BQ:=@Bool.not_true
def CM:=@Go.Proofs.Tryz.underlying4
def CS:=@List.length_append
def Dp:=@Go.run_firstCells_some
def EG:=@ne_eq
def EI:=@Go.Proofs.Tryz.ntmps84
def EM:=@List.append_assoc
def EN:=@Int.zero_sub
def EO:=@Int.ediv_neg
def EP:=@Array.all_eq_true_iff_forall_mem
def Gm:=@Go.Proofs.Tryz.results194
def GM:=@Nat.and_two_pow_sub_one_eq_mod
def GN:=@List.getElem_mem
def GO:=@List.flatMap_nil
def IJ:=@Go.World.ownsRow_nil
def IM:=@Go.Sem.run_pure
def IS:=@Nat.mul_pos
def IT:=@List.getLast?_eq_some_getLast
def IW:=@Int.neg_neg
def IX:=@Int.mul_add
def IY:=@Int.dvd_sub
def J7:=@Go.Proofs.Tryz.func84
def J8:=@Nat.not_lt_zero
def J9:=@Nat.le_antisymm
def Ka:=@List.mem_append
def Kb:=@Int.pow_ne_zero
def Kc:=@Int.natCast_pow
def Ke:=@Int.mul_ediv_mul_of_pos_left
def LV:=@Go.IntKind.wrap_u32
def L4:=@Array.getElem?_append_right
def L9:=@Nat.mod_two_eq_zero_or_one
def Ma:=@Nat.lt_of_mul_lt_mul_right
def Mb:=@List.take_zero
def Oe:=@Go.Proofs.Tryz.ntmps194
def Of:=@Go.Proofs.Tryz.ntmps137
def Ol:=@Nat.le_of_mul_le_mul_left
def Om:=@Nat.add_mul_mod_self_left
def OO:=@Int.mul_tdiv_cancel_left
def OP:=@Int.lt_irrefl
def OR:=@Go.RowKit.Below.heap_setCell
def OS:=@Array.getElem?_replicate
def Rh:=@Go.DataW.trod_int
def RV:=@Go.Proofs.Tryz.underlying50
def RW:=@Go.Proofs.Tryz.func194
def RX:=@Go.Proofs.Tryz.func137
def RY:=@Go.Proofs.Tryz.func121
def R8:=@Nat.div_div_eq_div_mul
def R9:=@List.getElem?_set_self
def Sb:=@Int.zero_add
def Sc:=@Int.ofNat_lt
def Sd:=@Int.neg_tmod
def Se:=@Int.emod_neg
def Sf:=@Int.emod_def
def Sg:=@Int.add_emod
def Sh:=@Int.add_comm
def TQ:=@List.singleton_append
def TS:=@List.countP_le_length
def T0:=@Array.getElem?_modify
def Ut:=@and_self
def Uy:=@Nat.pow_one
def Uz:=@Nat.or_comm
def UA:=@Nat.mul_pow
def UB:=@Nat.add_mul_div_left
def UC:=@Int.emod_lt
def UE:=@Go.RowKit.Below.heap_alloc
def UF:=@Nat.testBit_two_pow
def UG:=@List.take_succ_cons
def UH:=@Array.length_toList
def UI:=@Go.Proofs.Tryz.results121
def UJ:=@Option.toList_some
def UK:=@Nat.mod_le
def UL:=@Nat.and_one_is_mod
def UM:=@List.mem_singleton
def UN:=@List.mem_replicate
def UO:=@List.mem_filterMap
def UP:=@Int.tmod_lt_of_pos
def UQ:=@Int.lt_or_eq_of_le
def UR:=@Array.getElem?_map
def US:=@Go.grownCap_ge
def UT:=@dif_pos
def UU:=@Nat.mul_left_comm
def UV:=@Int.mul_left_comm
def UW:=@Go.run_callFunc_extern
def UX:=@false_iff
def UY:=@and_false
def UZ:=@Go.Proofs.Tryz.results87
def U0:=@Go.Proofs.Tryz.results82
def U4:=@Go.Proofs.Tryz.results56
def U5:=@Go.Proofs.Tryz.results33
def U6:=@Nat.lt_succ_self
def U7:=@List.any_eq_true
def U8:=@Int.dvd_antisymm
def U9:=@Go.u32_or_nat
def Va:=@Nat.one_ne_zero
def Vb:=@Nat.le_add_left
def Vc:=@List.length_set
def Vd:=@Int.natAbs_tmod
def Ve:=@or_false
def Vf:=@Go.World.ownsRow_lit
def Vg:=@Go.Proofs.Tryz.ntmps196
def Vh:=@Go.Proofs.Tryz.ntmps195
def Vi:=@Go.Proofs.Tryz.ntmps191
def Vj:=@Go.Proofs.Tryz.ntmps189
def Vk:=@Go.Proofs.Tryz.ntmps140
def Vl:=@Go.Proofs.Tryz.ntmps121
def Vm:=@List.mapM_cons
def Vn:=@Int.ofNat_tdiv
def Vo:=@Int.natAbs_neg
def Vp:=@Go.DataW.trod_struct
def Vq:=@Bool.and_false
variable{z:Int}{l xs zs:List Nat}{B B' a b c d g i k n p r vx vy vz x y:Nat}{A D:Option Addr}{t:TypeId}{u v:Value}{w w' wr:World}
def aZ:List Nat->Nat
 | []=>0
 | x::l=>x+4294967296*aZ l
def nh(l:List Nat):Prop:=∀x∈l,x<4294967296
def oW(l:List Nat):Prop:=∀x,l.getLast? = some x->x≠0
def zn(a b:List Nat):aZ (a++b)=aZ a+4294967296^a.length*aZ b:=by
 induction a with
 | nil=>simp[aZ]
 | cons x a ih=>simp only[lO,aZ,ih,cq,cb];rw[cg,kW,<-bC,aA (4294967296^a.length) 4294967296]
def iy(a:List Nat)(x:Nat):aZ (a++[x])=aZ a+4294967296^a.length*x:=by
 rw[zn];simp[aZ]
def en(l:List Nat)(k:Nat)(h:k<l.length):aZ (l.take (k+1))=aZ (l.take k)+4294967296^k*l.getD k 0:=by
 rw[nJ h,iy,gS,ir (dB h)];simp[cT,a8 h]
def nh.getD(h:nh l)(k:Nat):l.getD k 0<4294967296:=by
 rcases aC k l.length with a|a
 .simp only[cT,a8 a,fW];exact h _ (GN a)
 .simp[cT,cH a]
def nh.snoc(h:nh l){x:Nat}(b:x<4294967296):nh (l++[x]):=by
 intro y c;rcases Ka.1 c with a|a
 .exact h y a
 .rw[UM.1 a];exact b
def nh.take(h:nh l)(k:Nat):nh (l.take k):=fun x a=>h x (List.mem_of_mem_take a)
def jr(h:nh l):aZ l<4294967296^l.length:=by
 induction l with
 | nil=>simp[aZ]
 | cons x l ih =>
  have b:=ih (fun y a=>h y (dT _ a));have c:=h x (eH ..);simp only[aZ,cq,cb];generalize 4294967296^l.length=p at *;omega
def nB(k:Nat)(l:List Nat)(h:∀j,k<=j->l.getD j 0=0):aZ l=aZ (l.take k):=by
 induction l generalizing k with
 | nil=>simp
 | cons x l ih =>
  cases k with
  | zero =>
   have b:x=0:=by simpa [cT]using h 0 (ae _)
   have a:=ih 0 (fun j _=>by have:=h (j+1) om;simpa [cT]using this)
   simp only[Mb,aZ]at a ⊢;omega
  | succ k =>
   have a:=ih k (fun j c=>by have:=h (j+1) om;simpa [cT]using this)
   simp only[UG,aZ];omega
def rA{car:Nat}(h:vz+car*p=vx+vy) :
  vz+p*((car+(x+y))%4294967296)+(car+(x+y))/4294967296*(p*4294967296)=(vx+p*x)+(vy+p*y):=by
 have a:=dd (car+(x+y)) 4294967296;have:p*((car+(x+y))%4294967296)+(car+(x+y))/4294967296*(p*4294967296)=p*(car+(x+y)):=by
  calc
   p*((car+(x+y))%4294967296)+(car+(x+y))/4294967296*(p*4294967296)
   =p*(4294967296*((car+(x+y))/4294967296)+(car+(x+y))%4294967296):=by
     rw[cg];rw[kF];congr 1;rw[aA,bC]
   _=p*(car+(x+y)):=by rw[a]
 rw[kW,this,cg,cg,aA p car];omega
def vG(l:List Nat)(i:Nat)(h:i<l.length):aZ l=aZ (l.take i)+4294967296^i*(l.getD i 0+4294967296*aZ (l.drop (i+1))):=by
 have a:l=l.take i++l[i]::l.drop (i+1):=by rw[List.getElem_cons_drop,xT]
 have b:aZ l=aZ (l.take i++l[i]::l.drop (i+1)):=by rw[<-a]
 rw[b,zn,gS,ir (dB h)];simp[aZ,cT,a8 h]
def rK{a b:List Nat}(d:nh a)(c:i<a.length)(g:a.length=b.length)(e:a.drop (i+1)=b.drop (i+1))(h:a.getD i 0<b.getD i 0):aZ a<aZ b:=by
 rw[vG a i c,vG b i om,e];have f:=jr (d.take i);rw[gS,ir (dB c)]at f;generalize 4294967296^i=p at *;generalize aZ (b.drop (i+1))=v at *;have j:p*(a.getD i 0+4294967296*v)+p<=p*(b.getD i 0+4294967296*v):=by
  rw[<-eN];exact aM _ om
 omega
def sN(h:oW l)(a:l≠[]):4294967296^(l.length-1)<=aZ l:=by
 have b:=List.dropLast_concat_getLast a;have c:aZ l=aZ (l.dropLast++[l.getLast a]):=by rw[b]
 rw[c,iy,List.length_dropLast];have e:l.getLast a≠0:=h _ (by rw[IT a])
 have d:1<=l.getLast a:=om
 calc
  4294967296^(l.length-1)=4294967296^(l.length-1)*1:=om
  _<=4294967296^(l.length-1)*l.getLast a:=aM _ d
  _<=_:=Vb _ _
def pP{a b:List Nat}(c:nh a)(d:oW b)(h:a.length<b.length):aZ a<aZ b:=by
 have f:=jr c;have g:=sN d (by intro e;subst e;simp at h)
 have i:(4294967296:Nat)^a.length<=4294967296^(b.length-1):=cp om om;omega
def li(a b:Nat):Int:=if a<b then -1 else if b<a then 1 else 0
def lH(h:a<b):li a b=-1:=by simp[li,h]
def kA(h:b<a):li a b=1:=by
 have c:¬a<b:=om
 simp[li,h,c]
def lI(h:a=b):li a b=0:=by simp[li,h]
def Fh{bo:Nat}(h:vz+vy=vx+bo*p)(g:bo<=1)(i:x<4294967296)(j:y<4294967296) :
  ∃z b,z=(x+18446744073709551616-bo-y)%4294967296/\b=(x+18446744073709551616-bo-y)%18446744073709551616/9223372036854775808/\z<4294967296/\b<=1 /\
   (vz+p*z)+(vy+p*y)=(vx+p*x)+b*(p*4294967296):=by
 refine⟨_,_,rfl,rfl,om,om,?_⟩
 rcases aC x (bo+y)with d|e
 .have a:(x+18446744073709551616-bo-y)%4294967296=x+4294967296-bo-y:=om
  have c:(x+18446744073709551616-bo-y)%18446744073709551616/9223372036854775808=1:=om
  rw[a,c];have f:p*(x+4294967296-bo-y)+p*y+p*bo=p*x+p*4294967296:=by
   rw[<-cg,<-cg,<-cg];congr 1;omega
  rw[aA bo p]at h;omega
 .have a:(x+18446744073709551616-bo-y)%4294967296=x-bo-y:=om
  have c:(x+18446744073709551616-bo-y)%18446744073709551616/9223372036854775808=0:=om
  rw[a,c];have f:p*(x-bo-y)+p*y+p*bo=p*x:=by
   rw[<-cg,<-cg];congr 1;omega
  rw[aA bo p]at h;omega
def nl(v:Nat):Nat:=if v=0 then 0 else v.log2/32+1
def zQ(k:Nat):(4294967296:Nat)^k=2^(32*k):=by
 rw[show(4294967296:Nat)=2^32 from rfl,<-Nat.pow_mul]
def jS{v:Nat}:nl v<=k↔v<4294967296^k:=by
 unfold nl;split
 .subst_vars
  simp[iK]
 .rename_i a;rw[zQ,<-Nat.log2_lt a];omega
def fT(h:a<=b):nl a<=nl b:=jS.2 (ee h (jS.1 (ae _)))
def M9(a b:Nat):nl (a+b)<=max (nl a) (nl b)+1:=by
 rw[jS,cb];have c:a<4294967296^(max (nl a) (nl b)):=jS.1 om;have d:b<4294967296^(max (nl a) (nl b)):=jS.1 om;generalize 4294967296^(max (nl a) (nl b))=p at *;omega
def SI(a b:Nat):nl (a*b)<=nl a+nl b:=by
 rw[jS,fJ];exact Nat.mul_lt_mul'' (jS.1 (ae _)) (jS.1 (ae _))
def DH(b:nh xs)(c:oW xs):xs.length=nl (aZ xs):=by
 apply J9
 .rcases a6 xs.length with h|h
  .omega
  .have f:=sN c (by intro e;subst e;simp at h)
   rcases aC (nl (aZ xs)) xs.length with a|a
   .have d:nl (aZ xs)<=xs.length-1:=om
    have g:=jS.1 d;omega
   .exact a
 .exact jS.2 (jr b)
def sg(neg:Bool)(v:Nat):Int:=if neg then -(v:Int)else v
def fP(neg:Bool)(v:Nat):(sg neg v).natAbs=v:=by cases neg<;>simp[sg]
def Hd(neg:Bool)(v:Nat):sg (!neg) v=-sg neg v:=by cases neg<;>simp[sg]
def tK(neg:Bool):sg neg 0=0:=by cases neg<;>simp[sg]

def nH(a:Addr)(n:Nat):(a.add n).block=a.block:=by unfold Addr.add;split<;>rfl
def gC(w:World)(g:Nat)(t:TypeId)(cs:Array Value):Prop:=w.heap[g]? = some (.cells cs t (0,0))
section
variable {w w':World} {g:Nat} {t:TypeId} {cs:Array Value}
def gC.lt(h:gC w g t cs):g<w.heap.size:=by
 rcases aC g w.heap.size with a|b
 .exact a
 .unfold gC at h;rw[eC b]at h;cases h
def gC.cell(h:gC w g t cs)(i:Nat):w.cell? ⟨g,i,none⟩=cs[i]?:=cell_of_row w g i cs t (0,0) h
def gC.frozen(h:gC w g t cs)(i:Nat):w.frozen? ⟨g,i,none⟩=false:=by
 unfold gC at h;simp[World.frozen?,h]
def gC.new(w:World)(t:TypeId)(cs:Array Value):gC (w.alloc (.cells cs t)) w.heap.size t cs:=jC w _
def gC.set_(h:gC w g t cs)(i:Nat)(u:Value):gC (w.setCell ⟨g,i,none⟩ u) g t (cs.setIfInBounds i u):=by
 unfold gC at h ⊢;simp[World.setCell,T0,h]
def gC.below(h:gC w g t cs)(a:Below B w w')(b:g<B):gC w' g t cs:=(a.block g b).trans h
end
def d9(w w':World):Prop:=∃n,w'=w.drewN n
def d9.refl(w:World):d9 w w:=⟨0,rfl⟩
def d9.more(h:d9 w w')(n:Nat):d9 w (w'.drewN n):=by
 obtain⟨k,rfl⟩:=h;exact⟨k+n,by rw[World.drewN_drewN]⟩
def d9.below(h:d9 w w')(B:Nat):Below B w w':=by
 obtain⟨k,rfl⟩:=h;exact⟨rfl,rfl,rfl,ae _,fun _ _=>rfl⟩
def d9.heap(h:d9 w w'):w'.heap=w.heap:=by obtain⟨k,rfl⟩:=h;rfl
def d9.cell(h:d9 w w')(a:Addr):w'.cell? a=w.cell? a:=by obtain⟨k,rfl⟩:=h;rfl
def cG(w:World)(B:Nat)(A:Option Addr)(n:Nat)(xs:List Nat):Prop :=
 xs.length=n/\nh xs/\(0<n->∃ad:Addr,A=some ad/\ad.block<B/\∀j,j<n->w.cell? (ad.add j)=some (.int .u32 (xs.getD j 0)))
def cG.below(h:cG w B A n xs)(a:Below B' w w')(g:B<=B'):cG w' B A n xs :=
 ⟨h.1,h.2.1,fun b=>by
  obtain⟨ad,e,c,d⟩:=h.2.2 b;exact⟨ad,e,c,fun j f=>(a.cell (by rw[nH];omega)).trans (d j f)⟩⟩
def cG.still(h:cG w B A n xs)(a:d9 w w'):cG w' B A n xs :=
 h.below (a.below B) (ae _)
def cG.more(h:cG w B A n xs)(c:B<=B'):cG w B' A n xs :=
 ⟨h.1,h.2.1,fun a=>by
  obtain⟨ad,e,d,b⟩:=h.2.2 a;exact⟨ad,e,om,b⟩⟩
def cG.at_(h:cG w B A n xs){k:Nat}(a:k<n) :
  ∃(ad:Addr) (x:Nat),A=some ad/\ad.block<B/\xs.getD k 0=x/\x<4294967296/\w.cell? (ad.add k)=some (.int .u32 x):=by
 obtain⟨ad,e,b,c⟩:=h.2.2 om;exact⟨ad,_,e,b,rfl,h.2.1.getD k,c k a⟩
def cG.take(h:cG w B A n xs){k:Nat}(d:k<=n):cG w B A k (xs.take k) :=
 ⟨by rw[gS,h.1];omega,h.2.1.take k,fun f=>by
  obtain⟨ad,e,a,b⟩:=h.2.2 om;exact⟨ad,e,a,fun j c=>by rw[b j om];simp[cT,c]⟩⟩
def dK(zs:List Nat)(r:Nat):Array Value:=((zs++bU r 0).map (fun x:Nat=>dA .u32 x)).toArray
def mp(zs:List Nat)(r k:Nat)(h:k<zs.length+r):(dK zs r)[k]? = some (.int .u32 ((zs++bU r 0).getD k 0)):=by
 have a:k<(zs++bU r 0).length:=by simpa using h
 simp only[dK,fC,lk,a8 a,du,cT,fW]
def Bt(zs:List Nat)(r x:Nat):(dK zs (r+1)).setIfInBounds zs.length (.int .u32 x)=dK (zs++[x]) r:=by
 simp[dK,kb]
def Bv(r:Nat):dK [] r=Array.replicate r (.int .u32 0):=by simp[dK]
def cG.ofBlk(h:gC w g 136 (dK zs r))(a:nh zs){B:Nat}(b:g<B)(c:r=0):cG w B (some ⟨g,0,none⟩) zs.length zs :=
 ⟨rfl,a,fun _=>⟨_,rfl,b,fun j e=>by
  subst c;have d:(⟨g,0,none⟩:Addr).add j=⟨g,j,none⟩:=by unfold Addr.add;split<;>simp_all
  rw[d,h.cell,mp _ _ _ om];simp⟩⟩
def DD(n:Nat)(b:n<=1073741824)(w:World) :
  (Instr.makeSlice 48 (.int .i64 n) (.int .i64 n)).run ah w=.ok (.slice (some ⟨w.heap.size,0,none⟩) n n) (w.alloc (.cells (dK [] n) 136)):=by
 have h:=run_make (P:=ah) w 48 136 Tryz.t136 (.int .u32 0) fV kr kr .i64 .i64 (n:Int) (n:Int) om om (by show(4:Int)*(n:Int)<=_;omega) om
 have a:Tryz.t136.size=1:=by kernel_rfl
 have e:madeCells (dA .u32 0).cells ((n:Int).toNat*Tryz.t136.size)=dK [] n:=by
  rw[a,r9,cC,Bv];apply Array.ext
  .simp[madeCells]
  .intro i c d;simp[madeCells,Value.cells,Nat.mod_one]
 rw[e,cC]at h;exact h

def qk(w:World)(v:Nat)(e:Ending)(w':World):Prop :=
 ∃(A:Option Addr) (n c:Nat) (zs:List Nat),e=.returned (.slice A n c)/\n<=c/\cG w' w'.heap.size A n zs/\oW zs/\aZ zs=v/\Below w.heap.size w w'
def tG(h:0<k->xs.getD (k-1) 0≠0)(d:k<=xs.length):oW (xs.take k):=by
 intro x a;rcases a6 k with b|b
 .subst b;simp at a
 .have c:=h b;rw[List.getLast?_eq_getElem?,gS,ir d,fv om]at a;simp only[cT,a,fW]at c;exact c
def kP(A:Option Addr)(n c B:Nat)(xs:List Nat)(w:World)(hn:n<=c)(hm:n<=9223372036854775807)(h:cG w B A n xs) :
  Calls ah 136 #[.slice A n c] w fun e w'=>(∃k,k<=n/\e=.returned (.slice A k c)/\cG w B A k (xs.take k)/\oW (xs.take k)/\aZ (xs.take k)=aZ xs)/\w=w':=by
 have HH:=ac h;clear h
 go_enter func136,ntmps136
 go_wp2
 go_loop [0] (fun s=>∃k:Nat,k<=n/\s=.slice A k c/\Hid (∀j,k<=j->xs.getD j 0=0)) (fun s=>match s with|.slice _ k _=>k|_=>0)
 case atStart=>exact⟨n,ae _,rfl,ac (fun j hj=>by simp[cT,cH (show xs.length<=j by rw[HH.out.1];exact hj)])⟩
 case round =>
  obtain⟨k,hk,rfl,hz⟩:=hrel;by_cases h0:k=0
  .subst h0;go_wp2;go_ret;exact⟨⟨0,om,rfl,HH.out.take om,tG (fun h=>absurd h om) om,(nB 0 xs hz.out).symm⟩,rfl⟩
  .obtain⟨m,rfl⟩:∃m,k=m+1:=⟨k-1,om⟩
   obtain⟨ad,x,rfl,_,hx',_,hx⟩:=HH.out.at_ (k:=m) om;have HX:=ac hx';clear hx';by_cases hx0:x=0
   .subst hx0;go_wp2;refine⟨⟨m,om,rfl,ac fun j hj=>?_⟩,sm⟩
    rcases aC m j with h|h
    .exact hz.out j h
    .obtain rfl:j=m:=om
     exact HX.out
   .have hb1:((x:Int)==0)=false:=by simp;omega
    go_wp2;go_ret;exact⟨⟨m+1,hk,rfl,HH.out.take hk,tG (fun _=>by rw[fK,HX.out];exact hx0) (by rw[HH.out.1];exact hk),(nB (m+1) xs hz.out).symm⟩,rfl⟩
def iU(w wr:World)(zs:List Nat)(r:Nat):Prop:=Below w.heap.size w wr/\gC wr w.heap.size 136 (dK zs r)
def iU.start(w:World)(r:Nat):iU w (w.alloc (.cells (dK [] r) 136)) [] r:=⟨(aX _ _).alloc (ae _) _,gC.new _ _ _⟩
def iU.drewN(h:iU w wr zs r)(q:Nat):iU w (wr.drewN q) zs r:=⟨⟨h.1.os,h.1.tape,h.1.output,h.1.size,h.1.block⟩,h.2⟩
def iU.put(h:iU w wr zs (r+1))(k x:Nat)(a:k=zs.length):iU w (wr.setCell ⟨w.heap.size,k,none⟩ (.int .u32 x)) (zs++[x]) r:=by
 subst a;refine⟨h.1.setCell (ae _) _,?_⟩;have:=h.2.set_ zs.length (.int .u32 x)
 rwa [Bt]at this
def iU.old(h:iU w wr zs r)(a:k<zs.length+r):∃u,wr.cell? ⟨w.heap.size,k,none⟩=some u/\wr.frozen? ⟨w.heap.size,k,none⟩=false :=
 ⟨_,(h.2.cell k).trans (mp zs r k a),h.2.frozen k⟩
def QY(xs ys zs:List Nat)(k car:Nat):Prop:=zs.length=k/\nh zs/\aZ zs+car*4294967296^k=aZ (xs.take k)+aZ (ys.take k)
def LH(A B:Option Addr)(n m c d L:Nat)(xs ys:List Nat)(w:World)(hmn:m<=n)(hn:n<=536870912)(hL:L<=w.heap.size)(hx:cG w L A n xs)(hy:cG w L B m ys) :
  Calls ah 138 #[.slice A n c,.slice B m d] w (qk w (aZ xs+aZ ys)):=by
 have hmk:=DD (n+1) om;rw[show((n+1:Nat):Int)=(n:Int)+1 from by omega]at hmk
 have hlt:¬(n<m):=om
 have HX:=ac hx;clear hx;have HY:=ac hy;clear hy
 go_enter func138,ntmps138
 go_wp2;clear hmk
 go_loopw [6,22] (fun cv iv wr=>∃(k car:Nat) (zs:List Nat),k<=m/\iv=.int .i64 k/\cv=.int .u64 car/\car<=1/\Hid (iU w wr zs (n+1-k))/\Hid (QY xs ys zs k car)) (fun _ iv _=>m-(intOf iv).toNat)
 case atStart=>exact⟨0,0,[],om,rfl,rfl,om,ac (iU.start w (n+1)),ac ⟨rfl,by simp[nh],by simp[aZ]⟩⟩
 case round =>
  obtain⟨k,car,zs,hk,rfl,rfl,hcar,HF,HS⟩:=hrel;by_cases hkm:k<m
  .obtain⟨ad,x,rfl,hab,hxx,hx4,h1⟩:=(HX.out.below HF.out.1 hL).at_ (k:=k) om;obtain⟨bd,y,rfl,hbb,hyy,hy4,h2⟩:=(HY.out.below HF.out.1 hL).at_ (k:=k) om;obtain⟨u,hu,hf⟩:=HF.out.old (k:=k) (by have:=HS.out.1;omega)
   have HXX:=ac hxx;clear hxx;have HYY:=ac hyy;clear hyy;have hkn:(k:Int)<n:=om
   have hkm':(k:Int)<m:=om
   have hk0:(0:Int)<=k:=om
   go_wp2
   go_quiet (fail)
   go_wp2
   go_roundw
   case rel =>
    exact⟨k+1,(car+(x+y))/4294967296,zs++[(car+(x+y))%4294967296],om,by go_num,by go_num,om,
     ac (by
      have h3:n+1-k=(n+1-(k+1))+1:=om
      have h4:=HF.out;rw[h3]at h4;have h5:=(h4.drewN nq).put k ((car+(x+y))%4294967296) HS.out.1.symm;exact h5),
     ac (by
      obtain⟨s1,s2,s3⟩:=HS.out;refine⟨by simp[s1],s2.snoc om,?_⟩
      rw[iy,s1,en _ _ (by rw[HX.out.1];omega),en _ _ (by rw[HY.out.1];omega),HXX.out,HYY.out,cb]
      exact rA s3)⟩
   case measure=>simp[intOf];omega
  .obtain rfl:k=m:=om
   go_wp2
   go_loopw [6,51] (fun cv iv wr=>∃(i car:Nat) (zs:List Nat),i<=n-k/\iv=.int .i64 i/\cv=.int .u64 car/\car<=1/\Hid (iU w wr zs (n+1-(k+i)))/\Hid (QY xs ys zs (k+i) car)) (fun _ iv _=>n-k-(intOf iv).toNat)
   case atStart=>exact⟨0,car,zs,om,rfl,rfl,hcar,HF,HS⟩
   case round =>
    clear HF HS hcar;obtain⟨i,car,zs,hi,rfl,rfl,hcar,HF,HS⟩:=hrel;by_cases hin:i<n-k
    .obtain⟨ad,x,rfl,hab,hxx,hx4,h1⟩:=(HX.out.below HF.out.1 hL).at_ (k:=k+i) om;obtain⟨u,hu,hf⟩:=HF.out.old (k:=k+i) (by have:=HS.out.1;omega)
     have HXX:=ac hxx;clear hxx;have hkn:(k:Int)+i<n:=om
     have hkn1:(k:Int)+i<n+1:=om
     have hk0:(0:Int)<=(k:Int)+i:=om
     have hti:((k:Int)+i).toNat=k+i:=om
     have hlt2:(i:Int)<(n:Int)-k:=om
     go_wp2
     go_roundw
     case rel =>
      exact⟨i+1,(car+x)/4294967296,zs++[(car+x)%4294967296],om,by go_num,by go_num,om,
       ac (by
        have h3:n+1-(k+i)=(n+1-(k+(i+1)))+1:=om
        have h4:=HF.out;rw[h3]at h4;have h5:=h4.put (k+i) ((car+x)%4294967296) HS.out.1.symm;exact h5),
       ac (by
        obtain⟨s1,s2,s3⟩:=HS.out;refine⟨by simp[s1];omega,s2.snoc om,?_⟩
        have hyt:∀r,k<=r->ys.take r=ys:=fun r hr=>bR (by rw[HY.out.1];exact hr)
        rw[hyt _ om]at s3 ⊢;rw[iy,s1,show k+(i+1)=k+i+1 from by omega,en _ _ (by rw[HX.out.1];omega),HXX.out,cb]
        have:=rA (p:=4294967296^(k+i)) (x:=x) (y:=0) s3;simpa using this)⟩
     case measure=>simp[intOf];omega
    .obtain rfl:i=n-k:=om
     have hkn:k+(n-k)=n:=om
     obtain⟨u,hu,hf⟩:=HF.out.old (k:=n) (by have:=HS.out.1;omega)
     have hge:¬(((n-k:Nat):Int)<(n:Int)-k):=om
     go_wp2_with fail
     have h4:=HF.out;rw[show n+1-(k+(n-k))=0+1 from by omega]at h4
     have hl:zs.length=n:=by rw[HS.out.1,hkn]
     have h5:=h4.put n car hl.symm;have hlim:nh (zs++[car]):=HS.out.2.1.snoc om;have hU:=cG.ofBlk h5.2 hlim h5.2.lt rfl;rw[show(zs++[car]).length=n+1 from by simp[hl]]at hU
     have hB5:=h5.1;have hv:aZ (zs++[car])=aZ xs+aZ ys:=by
      obtain⟨s1,s2,s3⟩:=HS.out;rw[iy,hl,aA];rw[hkn,bR (by rw[HX.out.1];exact ae _),bR (by rw[HY.out.1];exact hmn)]at s3
      exact s3
     clear h4 h5 HF HS hu hf;have HU:=ac hU;clear hU;have HV:=ac hv;clear hv;have HB:=ac hB5;clear hB5;refine(kP _ _ _ _ _ _ (ae _) om HU.out).mono ?_;rintro e w' ⟨⟨r,hr,rfl,hU2,hT,hv2⟩,rfl⟩;have HU2:=ac hU2;clear hU2;have HV2:=ac hv2;clear hv2;go_wp2;go_ret;exact⟨_,_,_,_,rfl,hr,HU2.out,hT,HV2.out.trans HV.out,HB.out⟩
def LG(A B:Option Addr)(n m c d L:Nat)(xs ys:List Nat)(w:World)(hmn:m<n)(hn:n<=536870912)(hL:L<=w.heap.size)(hx:cG w L A n xs)(hy:cG w L B m ys) :
  Calls ah 138 #[.slice B m d,.slice A n c] w (qk w (aZ ys+aZ xs)):=by
 have hmk:=DD (n+1) om;rw[show((n+1:Nat):Int)=(n:Int)+1 from by omega]at hmk
 have hlt:m<n:=hmn;have HX:=ac hx;clear hx;have HY:=ac hy;clear hy
 go_enter func138,ntmps138
 go_wp2;clear hmk
 go_loopw [6,22] (fun cv iv wr=>∃(k car:Nat) (zs:List Nat),k<=m/\iv=.int .i64 k/\cv=.int .u64 car/\car<=1/\Hid (iU w wr zs (n+1-k))/\Hid (QY xs ys zs k car)) (fun _ iv _=>m-(intOf iv).toNat)
 case atStart=>exact⟨0,0,[],om,rfl,rfl,om,ac (iU.start w (n+1)),ac ⟨rfl,by simp[nh],by simp[aZ]⟩⟩
 case round =>
  obtain⟨k,car,zs,hk,rfl,rfl,hcar,HF,HS⟩:=hrel;by_cases hkm:k<m
  .obtain⟨ad,x,rfl,hab,hxx,hx4,h1⟩:=(HX.out.below HF.out.1 hL).at_ (k:=k) om;obtain⟨bd,y,rfl,hbb,hyy,hy4,h2⟩:=(HY.out.below HF.out.1 hL).at_ (k:=k) om;obtain⟨u,hu,hf⟩:=HF.out.old (k:=k) (by have:=HS.out.1;omega)
   have HXX:=ac hxx;clear hxx;have HYY:=ac hyy;clear hyy;have hkn:(k:Int)<n:=om
   have hkm':(k:Int)<m:=om
   have hk0:(0:Int)<=k:=om
   go_wp2
   go_quiet (fail)
   go_wp2
   go_roundw
   case rel =>
    exact⟨k+1,(car+(x+y))/4294967296,zs++[(car+(x+y))%4294967296],om,by go_num,by go_num,om,
     ac (by
      have h3:n+1-k=(n+1-(k+1))+1:=om
      have h4:=HF.out;rw[h3]at h4;have h5:=(h4.drewN nq).put k ((car+(x+y))%4294967296) HS.out.1.symm;exact h5),
     ac (by
      obtain⟨s1,s2,s3⟩:=HS.out;refine⟨by simp[s1],s2.snoc om,?_⟩
      rw[iy,s1,en _ _ (by rw[HX.out.1];omega),en _ _ (by rw[HY.out.1];omega),HXX.out,HYY.out,cb]
      exact rA s3)⟩
   case measure=>simp[intOf];omega
  .obtain rfl:k=m:=om
   go_wp2
   go_loopw [6,51] (fun cv iv wr=>∃(i car:Nat) (zs:List Nat),i<=n-k/\iv=.int .i64 i/\cv=.int .u64 car/\car<=1/\Hid (iU w wr zs (n+1-(k+i)))/\Hid (QY xs ys zs (k+i) car)) (fun _ iv _=>n-k-(intOf iv).toNat)
   case atStart=>exact⟨0,car,zs,om,rfl,rfl,hcar,HF,HS⟩
   case round =>
    clear HF HS hcar;obtain⟨i,car,zs,hi,rfl,rfl,hcar,HF,HS⟩:=hrel;by_cases hin:i<n-k
    .obtain⟨ad,x,rfl,hab,hxx,hx4,h1⟩:=(HX.out.below HF.out.1 hL).at_ (k:=k+i) om;obtain⟨u,hu,hf⟩:=HF.out.old (k:=k+i) (by have:=HS.out.1;omega)
     have HXX:=ac hxx;clear hxx;have hkn:(k:Int)+i<n:=om
     have hkn1:(k:Int)+i<n+1:=om
     have hk0:(0:Int)<=(k:Int)+i:=om
     have hti:((k:Int)+i).toNat=k+i:=om
     have hlt2:(i:Int)<(n:Int)-k:=om
     go_wp2
     go_roundw
     case rel =>
      exact⟨i+1,(car+x)/4294967296,zs++[(car+x)%4294967296],om,by go_num,by go_num,om,
       ac (by
        have h3:n+1-(k+i)=(n+1-(k+(i+1)))+1:=om
        have h4:=HF.out;rw[h3]at h4;have h5:=h4.put (k+i) ((car+x)%4294967296) HS.out.1.symm;exact h5),
       ac (by
        obtain⟨s1,s2,s3⟩:=HS.out;refine⟨by simp[s1];omega,s2.snoc om,?_⟩
        have hyt:∀r,k<=r->ys.take r=ys:=fun r hr=>bR (by rw[HY.out.1];exact hr)
        rw[hyt _ om]at s3 ⊢;rw[iy,s1,show k+(i+1)=k+i+1 from by omega,en _ _ (by rw[HX.out.1];omega),HXX.out,cb]
        have:=rA (p:=4294967296^(k+i)) (x:=x) (y:=0) s3;simpa using this)⟩
     case measure=>simp[intOf];omega
    .obtain rfl:i=n-k:=om
     have hkn:k+(n-k)=n:=om
     obtain⟨u,hu,hf⟩:=HF.out.old (k:=n) (by have:=HS.out.1;omega)
     have hge:¬(((n-k:Nat):Int)<(n:Int)-k):=om
     go_wp2_with fail
     have h4:=HF.out;rw[show n+1-(k+(n-k))=0+1 from by omega]at h4
     have hl:zs.length=n:=by rw[HS.out.1,hkn]
     have h5:=h4.put n car hl.symm;have hlim:nh (zs++[car]):=HS.out.2.1.snoc om;have hU:=cG.ofBlk h5.2 hlim h5.2.lt rfl;rw[show(zs++[car]).length=n+1 from by simp[hl]]at hU
     have hB5:=h5.1;have hv:aZ (zs++[car])=aZ xs+aZ ys:=by
      obtain⟨s1,s2,s3⟩:=HS.out;rw[iy,hl,aA];rw[hkn,bR (by rw[HX.out.1];exact ae _),bR (by rw[HY.out.1];exact dB hmn)]at s3
      exact s3
     clear h4 h5 HF HS hu hf;have HU:=ac hU;clear hU;have HV:=ac hv;clear hv;have HB:=ac hB5;clear hB5;refine(kP _ _ _ _ _ _ (ae _) om HU.out).mono ?_;rintro e w' ⟨⟨r,hr,rfl,hU2,hT,hv2⟩,rfl⟩;have HU2:=ac hU2;clear hU2;have HV2:=ac hv2;clear hv2;go_wp2;go_ret;exact⟨_,_,_,_,rfl,hr,HU2.out,hT,(HV2.out.trans HV.out).trans (kF _ _),HB.out⟩
def AG(A B:Option Addr)(n m c d L:Nat)(xs ys:List Nat)(w:World)(f:n<=536870912)(g:m<=536870912)(a:L<=w.heap.size)(b:cG w L A n xs)(e:cG w L B m ys) :
  Calls ah 138 #[.slice A n c,.slice B m d] w (qk w (aZ xs+aZ ys)):=by
 rcases aC n m with h|h
 .exact LG B A m n d c L ys xs w h g a e b
 .exact LH A B n m c d L xs ys w h f a b e

def rT(h:i<xs.length):xs.drop i=xs.getD i 0::xs.drop (i+1):=by
 rw[rY h];simp[cT,a8 h]
def ik(A B:Option Addr)(n m c d L:Nat)(xs ys:List Nat)(w:World)(hn:n<=9223372036854775807)(hm:m<=9223372036854775807)(hx:cG w L A n xs)(hy:cG w L B m ys)(tx:oW xs)(ty:oW ys) :
  Calls ah 195 #[.slice A n c,.slice B m d] w fun e w'=>e=.returned (.int .i64 (li (aZ xs) (aZ ys)))/\d9 w w':=by
 have HX:=ac hx;clear hx;have HY:=ac hy;clear hy;have TX:=ac tx;clear tx;have TY:=ac ty;clear ty;by_cases h1:n<m
 .have hr:=ac (lH (pP HX.out.2.1 TY.out (by rw[HX.out.1,HY.out.1];exact h1)))
  go_enter func195,Vh
  go_wp2;go_ret;exact⟨by rw[hr.out];rfl,d9.refl _⟩
 by_cases h2:m<n
 .have hr:=ac (kA (pP HY.out.2.1 TX.out (by rw[HX.out.1,HY.out.1];exact h2)))
  go_enter func195,Vh
  go_wp2;go_ret;exact⟨by rw[hr.out];rfl,d9.refl _⟩
 obtain rfl:n=m:=om
 go_enter func195,Vh
 go_wp2
 go_loopw [5] (fun iv wr=>∃(k:Nat),k<=n/\iv=.int .i64 ((k:Int)-1)/\Hid (d9 w wr)/\Hid (xs.drop k=ys.drop k)) (fun iv _=>(intOf iv+1).toNat)
 case atStart=>exact⟨n,om,rfl,ac (d9.refl w),ac (by rw[kG (by rw[HX.out.1];omega),kG (by rw[HY.out.1];omega)])⟩
 case round =>
  obtain⟨k,hk,rfl,HQ,HD⟩:=hrel;by_cases h0:k=0
  .subst h0;have hr:=ac (lI (show aZ xs=aZ ys by have:=HD.out;simp only[yR]at this;rw[this]))
   go_wp2;go_ret;exact⟨by rw[hr.out];rfl,HQ.out⟩
  .obtain⟨i,rfl⟩:∃i,k=i+1:=⟨k-1,om⟩
   obtain⟨ad,x,rfl,_,hxx,hx4,h3⟩:=(HX.out.still HQ.out).at_ (k:=i) om;obtain⟨bd,y,rfl,_,hyy,hy4,h4⟩:=(HY.out.still HQ.out).at_ (k:=i) om;have HXX:=ac hxx;clear hxx;have HYY:=ac hyy;clear hyy;have e1:((i+1:Nat):Int)-1=(i:Int):=om
   rw[e1];clear e1;have hi0:(0:Int)<=i:=om
   have hin:(i:Int)<n:=om
   rcases dY x y with hlt|heq|hgt
   .have hr:=ac (lH (rK HX.out.2.1 (i:=i) (by rw[HX.out.1];omega) (by rw[HX.out.1,HY.out.1]) HD.out (by rw[HXX.out,HYY.out];exact hlt)))
    go_wp2
    go_quiet (fail)
    go_wp2;go_ret;exact⟨by rw[hr.out];rfl,by repeat' (first|exact HQ.out|apply d9.more)⟩
   .subst heq;go_wp2
    go_quiet (fail)
    go_wp2
    go_quiet (fail)
    go_wp2
    go_roundw
    case rel=>exact⟨i,om,rfl,ac (by repeat' (first|exact HQ.out|apply d9.more)),ac (by rw[rT (by rw[HX.out.1];omega),rT (xs:=ys) (by rw[HY.out.1];omega),HXX.out,HYY.out,HD.out])⟩
    case measure=>simp[intOf]
   .have hr:=ac (kA (rK HY.out.2.1 (i:=i) (by rw[HY.out.1];omega) (by rw[HX.out.1,HY.out.1]) HD.out.symm (by rw[HXX.out,HYY.out];exact hgt)))
    go_wp2
    go_quiet (fail)
    go_wp2
    go_quiet (fail)
    go_wp2;go_ret;exact⟨by rw[hr.out];rfl,by repeat' (first|exact HQ.out|apply d9.more)⟩

def Hs(c:a<4294967296):a ||| x*4294967296=a+x*4294967296:=by
 have h:=kC (i:=32) (b:=a) (by simpa using c) x
 rw[tu]at h;rw[Uz,<-h,kF]
def zp(b:a<4294967296)(c:x<4294967296):bits .or .u64 (a:Int) ((x:Int)*4294967296)=((a+x*4294967296:Nat):Int):=by
 have h:=yc a (x*4294967296) om om;rw[Hs b]at h;rw[<-h];rfl
def mC(A:Option Addr)(n c L:Nat)(xs:List Nat)(w:World)(hn:n<=2)(hx:cG w L A n xs) :
  Calls ah 141 #[.slice A n c] w fun e w'=>e=.returned (.int .u64 (aZ xs))/\w=w':=by
 have HX:=ac hx;clear hx
 go_enter func141,ntmps141
 go_wp2
 go_loop [3,8] (fun v i=>∃k:Nat,k<=n/\i=.int .i64 k/\v=.int .u64 (aZ (xs.take k))) (fun _ i=>n-(intOf i).toNat)
 case atStart=>exact⟨0,jM _,rfl,by simp[aZ]⟩
 case round =>
  obtain⟨k,hk,rfl,rfl⟩:=hrel;by_cases hkn:k<n
  .obtain⟨ad,x,rfl,_,hxx,hx4,h1⟩:=HX.out.at_ hkn;have HXX:=ac hxx;clear hxx;have hv:=jr (HX.out.2.1.take k);have hk2:k=0∨k=1:=om
   rcases hk2 with rfl|rfl
   .simp only[Addr.add,ai]at h1;go_wp2;refine⟨⟨1,om,rfl,?_⟩,by simp[intOf];omega⟩
    have hx1:xs.take 1=[x]:=by
     rw[nJ (by rw[HX.out.1];omega)]
     have:=HXX.out;simp only[cT,a8 (show 0<xs.length by rw[HX.out.1];omega),fW]at this
     simp[this]
    rw[hx1];have h5:=yc 0 x om om;simp only[Nat.zero_or]at h5;simpa [aZ]using h5
   .simp only[Addr.add,Va,aS]at h1;go_wp2;refine⟨⟨2,om,rfl,?_⟩,by simp[intOf];omega⟩
    rw[en xs 1 (by rw[HX.out.1];omega),HXX.out]
    simp only[gS]at hv;rw[zp (dF hv (by
     rw[HX.out.1,ir om];omega)) hx4,Uy,aA x]
  .obtain rfl:k=n:=om
   go_wp2;go_ret;exact⟨by rw[bR (by rw[HX.out.1];exact ae _)];rfl,rfl⟩
def kz(v:Nat)(w:World)(hv:v<18446744073709551616) :
  Calls ah 135 #[.int .u64 v] w (qk w v):=by
 go_enter func135,ntmps135
 go_wp2_with fail
 have hl:nh [v%4294967296,v/4294967296]:=by
  intro x hx;simp only[sJ,bS,Ve]at hx;rcases hx with rfl|rfl<;>omega
 have hb:gC (w.alloc (Obj.cells #[dA IntKind.u32 ((v:Int)%4294967296),dA IntKind.u32 ((v:Int)/4294967296)] 136)) w.heap.size 136 (dK [v%4294967296,v/4294967296] 0):=by
  have:=gC.new w 136 #[dA IntKind.u32 ((v:Int)%4294967296),dA IntKind.u32 ((v:Int)/4294967296)];simpa [dK]using this
 have hU:=cG.ofBlk hb hl hb.lt rfl;have HB:=ac ((aX w.heap.size w).alloc (ae _) (Obj.cells #[dA IntKind.u32 ((v:Int)%4294967296),dA IntKind.u32 ((v:Int)/4294967296)] 136));clear hb;have HU:=ac hU;clear hU;refine(kP _ _ _ _ _ _ (ae _) sm HU.out).mono ?_
 rintro e w' ⟨⟨r,hr,rfl,hU2,hT,hv2⟩,rfl⟩;have HU2:=ac hU2;clear hU2;have HV2:=ac hv2;clear hv2;go_wp2;go_ret;exact⟨_,_,_,_,rfl,hr,HU2.out,hT,HV2.out.trans (by simp[aZ];omega),HB.out⟩

def Diff1(xs ys zs:List Nat)(k bo:Nat):Prop:=zs.length=k/\nh zs/\aZ zs+aZ (ys.take k)=aZ (xs.take k)+bo*4294967296^k
def B2(x bo y:Nat)(a:x<4294967296)(b:bo<=1)(c:y<4294967296) :
  IntKind.u64.wrap (IntKind.u64.wrap ((x:Int)-bo)-y)=((x+18446744073709551616-bo-y)%18446744073709551616:Nat):=by
 rw[cf,cf];omega
def B3(x bo:Nat)(a:x<4294967296)(b:bo<=1) :
  IntKind.u64.wrap ((x:Int)-bo)=((x+18446744073709551616-bo-0)%18446744073709551616:Nat):=by
 rw[cf];omega
def H9{t:Nat}:((t%18446744073709551616:Nat):Int)%4294967296=((t%4294967296:Nat):Int):=om
def DM{t:Nat}:((t%18446744073709551616:Nat):Int)/9223372036854775808=((t%18446744073709551616/9223372036854775808:Nat):Int):=om
def pS(A B:Option Addr)(n m c d L:Nat)(xs ys:List Nat)(w:World)(hmn:m<=n)(hn:n<=536870912)(hL:L<=w.heap.size)(hx:cG w L A n xs)(hy:cG w L B m ys)(hle:aZ ys<=aZ xs) :
  Calls ah 139 #[.slice A n c,.slice B m d] w (qk w (aZ xs-aZ ys)):=by
 have hmk:=DD n om;have HLE:=ac hle;clear hle;have HX:=ac hx;clear hx;have HY:=ac hy;clear hy
 go_enter func139,ntmps139
 go_wp2;clear hmk
 go_loopw [6,14] (fun cv iv wr=>∃(k bo:Nat) (zs:List Nat),k<=n/\iv=.int .i64 k/\cv=.int .u64 bo/\bo<=1/\Hid (iU w wr zs (n-k))/\Hid (Diff1 xs ys zs k bo)) (fun _ iv _=>n-(intOf iv).toNat)
 case atStart=>exact⟨0,0,[],om,rfl,rfl,om,ac (iU.start w n),ac ⟨rfl,by simp[nh],by simp[aZ]⟩⟩
 case round =>
  obtain⟨k,bo,zs,hk,rfl,rfl,hbo,HF,HS⟩:=hrel;by_cases hkn:k<n
  .obtain⟨ad,x,rfl,hab,hxx,hx4,h1⟩:=(HX.out.below HF.out.1 hL).at_ (k:=k) om;obtain⟨u,hu,hf⟩:=HF.out.old (k:=k) (by have:=HS.out.1;omega)
   have HXX:=ac hxx;clear hxx;have hkn':(k:Int)<n:=om
   have hk0:(0:Int)<=k:=om
   by_cases hkm:k<m
   .obtain⟨bd,y,rfl,hbb,hyy,hy4,h2⟩:=(HY.out.below HF.out.1 hL).at_ (k:=k) om;have HYY:=ac hyy;clear hyy;have hkm':(k:Int)<m:=om
    go_wp2
    go_roundw
    case rel =>
     obtain⟨s1,s2,s3⟩:=HS.out;obtain⟨z,b,hz,hb,z4,b1,hs⟩:=Fh s3 hbo hx4 hy4;refine⟨k+1,b,zs++[z],om,by go_num,?_,b1,ac ?_,ac ⟨by simp[s1],s2.snoc z4,?_⟩⟩
     .rw[B2 x bo y hx4 hbo hy4,DM,hb]
     .have h3:n-k=(n-(k+1))+1:=om
      have h4:=HF.out;rw[h3]at h4;rw[B2 x bo y hx4 hbo hy4,H9,<-hz];exact h4.put k z s1.symm
     .rw[iy,s1,en xs _ (by rw[HX.out.1];omega),en ys _ (by rw[HY.out.1];omega),HXX.out,HYY.out,cb]
      exact hs
    case measure=>simp[intOf];omega
   .go_wp2
    go_roundw
    case rel =>
     obtain⟨s1,s2,s3⟩:=HS.out;obtain⟨z,b,hz,hb,z4,b1,hs⟩:=Fh (y:=0) s3 hbo hx4 om;refine⟨k+1,b,zs++[z],om,by go_num,?_,b1,ac ?_,ac ⟨by simp[s1],s2.snoc z4,?_⟩⟩
     .rw[B3 x bo hx4 hbo,DM,hb]
     .have h3:n-k=(n-(k+1))+1:=om
      have h4:=HF.out;rw[h3]at h4;rw[B3 x bo hx4 hbo,H9,<-hz];exact h4.put k z s1.symm
     .have hyt:∀r,m<=r->ys.take r=ys:=fun r hr=>bR (by rw[HY.out.1];exact hr)
      rw[hyt _ om]at hs ⊢;rw[iy,s1,en _ _ (by rw[HX.out.1];omega),HXX.out,cb]
      simpa using hs
    case measure=>simp[intOf];omega
  .obtain rfl:k=n:=om
   go_wp2_with fail
   obtain⟨s1,s2,s3⟩:=HS.out;have h5:=HF.out;rw[ct]at h5;have hU:=cG.ofBlk h5.2 s2 h5.2.lt rfl;rw[s1]at hU;have hv:aZ zs=aZ xs-aZ ys:=by
    rw[bR (l:=xs) (by rw[HX.out.1];exact ae _),bR (l:=ys) (by rw[HY.out.1];exact hmn)]at s3
    have h6:=HLE.out;have h7:=jr s2;rw[s1]at h7;rcases a6 bo with h0|h0
    .subst h0;omega
    .obtain rfl:bo=1:=om
     omega
   have HB:=ac h5.1;clear h5 HF HS s1 s2 s3;have HU:=ac hU;clear hU;have HV:=ac hv;clear hv;refine(kP _ _ _ _ _ _ (ae _) om HU.out).mono ?_;rintro e w' ⟨⟨r,hr,rfl,hU2,hT,hv2⟩,rfl⟩;have HU2:=ac hU2;clear hU2;have HV2:=ac hv2;clear hv2;go_wp2;go_ret;exact⟨_,_,_,_,rfl,hr,HU2.out,hT,HV2.out.trans HV.out,HB.out⟩

def eJ(w:World)(B:Nat)(v:Value)(z:Int):Prop :=
 ∃(neg:Bool) (A:Option Addr) (n c:Nat) (xs:List Nat),v=.agg #[.bool neg,.slice A n c]/\n<=c/\cG w B A n xs/\oW xs/\z=sg neg (aZ xs)
def eJ.below(h:eJ w B v z)(a:Below B' w w')(b:B<=B'):eJ w' B v z:=by
 obtain⟨neg,A,n,c,xs,d,e,f,g,i⟩:=h;exact⟨neg,A,n,c,xs,d,e,f.below a b,g,i⟩
def eJ.more(h:eJ w B v z)(a:B<=B'):eJ w B' v z:=by
 obtain⟨neg,A,n,c,xs,b,d,e,f,g⟩:=h;exact⟨neg,A,n,c,xs,b,d,e.more a,f,g⟩
def Hw:Value->Prop
 | .int _ _=>False
 | _=>True
def cG.put{cs:Array Value}(h:cG w B A n xs)(c:gC w g t cs)(d:∀(j:Nat) (x:Value),cs[j]? = some x->Hw x) :
  cG (w.setCell ⟨g,i,none⟩ u) B A n xs :=
 ⟨h.1,h.2.1,fun f=>by
  obtain⟨ad,e,k,l⟩:=h.2.2 f;refine⟨ad,e,k,fun j m=>?_⟩;have a:=l j m;have b:ad.block≠g:=by
   intro o;have p:w.cell? (ad.add j)=(if (ad.add j).spot.isSome then none else cs[(ad.add j).off]?):=by
    unfold World.cell?;rw[nH,o,show w.heap[g]? = _ from c]
   rw[p]at a;split at a
   .cases a
   .exact d _ _ a
  rw[<-a];exact BE (OR w _ u _ (by rw[nH];exact b))⟩
def eJ.put{cs:Array Value}(h:eJ w B v z)(a:gC w g t cs)(b:∀(j:Nat) (x:Value),cs[j]? = some x->Hw x) :
  eJ (w.setCell ⟨g,i,none⟩ u) B v z:=by
 obtain⟨neg,A,n,c,xs,d,e,f,k,l⟩:=h;exact⟨neg,A,n,c,xs,d,e,f.put a b,k,l⟩
def mj(a:Bool)(A:Option Addr)(n c:Nat):∀(j:Nat) (x:Value),(#[aq a,ao A n c]:Array Value)[j]? = some x->Hw x:=by
 intro j x h
 match j with
 | 0=>simp at h;subst h;trivial
 | 1=>simp at h;subst h;trivial
 | j+2=>simp at h
def eJ.result{neg a:Bool}(h:eJ w B (.agg #[.bool neg,.slice A n c]) z)(b:gC w g 50 #[.bool a,.slice D k d]) :
  eJ ((w.setCell ⟨g,0,none⟩ (.bool neg)).setCell ⟨g,1,none⟩ (.slice A n c)) B (.agg #[.bool neg,.slice A n c]) z :=
 (h.put b (mj a D k d)).put (b.set_ 0 (.bool neg)) (by simpa using mj neg D k d)
def dL(w:World)(z:Int)(e:Ending)(w':World):Prop:=∃v,e=.returned v/\eJ w' w'.heap.size v z/\Below w.heap.size w w'
def dL.cell{w2:World}{neg a:Bool}{z':Int}(f:eJ w2 w2.heap.size (.agg #[.bool neg,.slice A n c]) z)(b:gC w2 g 50 #[.bool a,.slice D k d])
  (h:Below w.heap.size w w2) (e:w.heap.size<=g) (i:z=z') :
  dL w z' (.returned (.agg #[.bool neg,.slice A n c])) ((w2.setCell ⟨g,0,none⟩ (.bool neg)).setCell ⟨g,1,none⟩ (.slice A n c)) :=
 ⟨_,rfl,by subst i;simpa using eJ.result f b,(h.setCell (by exact e) _).setCell (by exact e) _⟩
def xr(s:Bool)(a b:Nat):sg s (a+b)=sg s a+sg s b:=by cases s<;>simp[sg];omega
def vO{s1 s2:Bool}(h:s1≠s2){a b:Nat}(c:b<=a):sg s1 (a-b)=sg s1 a+sg s2 b:=by
 cases s1<;>cases s2<;>simp[sg]at*<;> omega
def Cg{s1 s2:Bool}(h:s1≠s2){a b:Nat}(c:a<=b):sg s2 (b-a)=sg s1 a+sg s2 b:=by
 cases s1<;>cases s2<;>simp[sg]at*<;> omega
def aJ(h:cG w B A n xs)(a:oW xs):n=nl (aZ xs):=by rw[<-h.1];exact DH h.2.1 a
def gZ(neg:Bool)(A:Option Addr)(n c B:Nat)(xs:List Nat)(w:World)(hn:n<=c)(hm:n<=9223372036854775807)(hB:B<=w.heap.size)(h:cG w B A n xs)(ht:oW xs) :
  Calls ah 134 #[.bool neg,.slice A n c] w (dL w (sg neg (aZ xs))):=by
 have HX:=ac h;clear h;have HT:=ac ht;clear ht;by_cases h0:n=0
 .subst h0
  go_enter func134,ntmps134
  go_wp2;have hx0:xs=[]:=mX.1 HX.out.1;exact cI (v:=.agg #[.bool false,.slice none 0 0]) (by simp[results,results134,go_sem]) rfl
   ⟨_,rfl,⟨false,none,0,0,[],rfl,ae _,⟨rfl,by simp[nh],fun h=>absurd h om⟩,by intro x hx;simp at hx,by rw[hx0];simp[aZ,sg]⟩,(aX _ _).alloc (ae _) _⟩
 .have h1:((n:Int)==0)=false:=by simp;omega
  go_enter func134,ntmps134
  go_wp2;have hb:=(aX w.heap.size w).alloc (ae _) (Obj.cells #[aq neg,ao A n c] 50);exact cI (v:=.agg #[.bool neg,.slice A n c]) (by simp[results,results134,go_sem]) rfl
   ⟨_,rfl,⟨neg,A,n,c,xs,rfl,hn,(HX.out.below hb hB).more (by have:=hb.size;omega),HT.out,rfl⟩,hb⟩
def sF(s1 s2:Bool)(A B:Option Addr)(n m c d L:Nat)(xs ys:List Nat)(w:World)(hn:n<=536870912)(hm:m<=536870912)(hL:L<=w.heap.size)
  (hx:cG w L A n xs) (hy:cG w L B m ys) (tx:oW xs) (ty:oW ys) :
  Calls ah 194 #[.bool s1,.slice A n c,.bool s2,.slice B m d] w (dL w (sg s1 (aZ xs)+sg s2 (aZ ys))):=by
 have HX:=ac hx;clear hx;have HY:=ac hy;clear hy;have HTX:=ac tx;clear tx;have HTY:=ac ty;clear ty;by_cases hs:s1=s2
 .subst hs;have hb:(s1==s1)=true:=by simp
  go_enter RW,Oe
  go_wp2_with fail
  have hb0:=(aX w.heap.size w).alloc (ae _) (Obj.cells #[aq false,ao none 0 0] 50);refine(AG A B n m c d L xs ys _ hn hm (by simp;omega) (HX.out.below hb0 hL) (HY.out.below hb0 hL)).mono ?_
  rintro e w1 ⟨A1,k,c1,zs,rfl,hk,hU,hT,hv,hb1⟩;have hk2:k<=536870913:=by
   rw[<-hU.1,DH hU.2.1 hT,hv];have h1:=M9 (aZ xs) (aZ ys);rw[<-DH HX.out.2.1 HTX.out,<-DH HY.out.2.1 HTY.out,HX.out.1,HY.out.1]at h1;omega
  have HU:=ac hU;clear hU;have HV:=ac hv;clear hv;have HT:=ac hT;clear hT;have HB1:=ac hb1;clear hb1;have HB0:=ac hb0;clear hb0
  go_wp2_with fail
  refine(gZ s1 A1 k c1 w1.heap.size zs w1 hk om (ae _) HU.out HT.out).mono ?_;rintro e w2 ⟨v,rfl,hI,hb2⟩;obtain⟨neg,A2,n2,c2,zs2,rfl,hI2⟩:=hI;have hsz:w.heap.size+1<=w1.heap.size:=by have:=HB1.out.size;simpa using this
  have hblk:gC w2 w.heap.size 50 #[.bool false,.slice none 0 0]:=((gC.new w 50 _).below HB1.out sm).below hb2 om
  have hc0:=hblk.cell 0;have hc1:=hblk.cell 1;have hf0:=hblk.frozen 0;have hf1:=hblk.frozen 1;simp only[fC,c8,ci]at hc0 hc1;have HK:=ac hblk;clear hblk;have HI:=ac hI2;clear hI2;have HB2:=ac hb2;clear hb2;go_wp2;exact cI (v:=.agg #[.bool neg,.slice A2 n2 c2]) (by simp[results,Gm,go_sem,hc0,hc1]) rfl
   (dL.cell ⟨neg,A2,n2,c2,zs2,rfl,HI.out⟩ HK.out ((HB0.out.trans (HB1.out.mono sm)).trans (HB2.out.mono om)) (ae _) (by rw[HV.out,xr]))
 .have hb:(s1==s2)=false:=by simpa using hs
  rcases aC (aZ xs) (aZ ys)with hlt|hge
  .have hcm:=lH hlt
   go_enter RW,Oe
   go_wp2_with fail
   have hb0:=(aX w.heap.size w).alloc (ae _) (Obj.cells #[aq false,ao none 0 0] 50);have hcall:=ik A B n m c d L xs ys (w.alloc (Obj.cells #[aq false,ao none 0 0] 50)) om om (HX.out.below hb0 hL) (HY.out.below hb0 hL) HTX.out HTY.out;rw[hcm]at hcall;refine hcall.mono ?_;clear hcall hcm;rintro e w1 ⟨rfl,q,rfl⟩;have HB0:=ac (hb0.trans ((d9.refl _).more q |>.below _));clear hb0
   go_wp2_with fail
   refine(pS B A m n d c L ys xs _ (by have h1:=aJ HX.out HTX.out;have h2:=aJ HY.out HTY.out;have h3:=fT (dB hlt);omega) om (by simp;omega) (HY.out.below HB0.out hL) (HX.out.below HB0.out hL) (dB hlt)).mono ?_
   rintro e w1 ⟨A1,k,c1,zs,rfl,hk,hU,hT,hv,hb1⟩;have hk2:k<=536870913:=by
    rw[aJ hU hT,hv];have h1:=aJ HX.out HTX.out;have h2:=aJ HY.out HTY.out;have h3:nl (aZ xs-aZ ys)<=nl (aZ xs):=fT om;have h4:nl (aZ ys-aZ xs)<=nl (aZ ys):=fT om;omega
   have HU:=ac hU;clear hU;have HV:=ac hv;clear hv;have HT:=ac hT;clear hT;have HB1:=ac hb1;clear hb1
   go_wp2_with fail
   refine(gZ s2 A1 k c1 w1.heap.size zs w1 hk om (ae _) HU.out HT.out).mono ?_;rintro e w2 ⟨v,rfl,hI,hb2⟩;obtain⟨neg,A2,n2,c2,zs2,rfl,hI2⟩:=hI;have hsz:w.heap.size+1<=w1.heap.size:=by have:=HB1.out.size;simpa using this
   have hblk:gC w2 w.heap.size 50 #[.bool false,.slice none 0 0]:=(gC.below (w:=(w.alloc (Obj.cells #[aq false,ao none 0 0] 50)).drewN q) (gC.new w 50 _) HB1.out sm).below hb2 om
   have hc0:=hblk.cell 0;have hc1:=hblk.cell 1;have hf0:=hblk.frozen 0;have hf1:=hblk.frozen 1;simp only[fC,c8,ci]at hc0 hc1;have HK:=ac hblk;clear hblk;have HI:=ac hI2;clear hI2;have HB2:=ac hb2;clear hb2;go_wp2;exact cI (v:=.agg #[.bool neg,.slice A2 n2 c2]) (by simp[results,Gm,go_sem,hc0,hc1]) rfl
    (dL.cell ⟨neg,A2,n2,c2,zs2,rfl,HI.out⟩ HK.out ((HB0.out.trans (HB1.out.mono sm)).trans (HB2.out.mono om)) (ae _) (by rw[HV.out,Cg hs (dB hlt)]))
  .rcases aC (aZ ys) (aZ xs)with hgt|hle
   .have hcm:=kA hgt
    go_enter RW,Oe
    go_wp2_with fail
    have hb0:=(aX w.heap.size w).alloc (ae _) (Obj.cells #[aq false,ao none 0 0] 50);have hcall:=ik A B n m c d L xs ys (w.alloc (Obj.cells #[aq false,ao none 0 0] 50)) om om (HX.out.below hb0 hL) (HY.out.below hb0 hL) HTX.out HTY.out;rw[hcm]at hcall;refine hcall.mono ?_;clear hcall hcm;rintro e w1 ⟨rfl,q,rfl⟩;have HB0:=ac (hb0.trans ((d9.refl _).more q |>.below _));clear hb0
    go_wp2_with fail
    refine(pS A B n m c d L xs ys _ (by have h1:=aJ HX.out HTX.out;have h2:=aJ HY.out HTY.out;have h3:=fT (dB hgt);omega) om (by simp;omega) (HX.out.below HB0.out hL) (HY.out.below HB0.out hL) (dB hgt)).mono ?_
    rintro e w1 ⟨A1,k,c1,zs,rfl,hk,hU,hT,hv,hb1⟩;have hk2:k<=536870913:=by
     rw[aJ hU hT,hv];have h1:=aJ HX.out HTX.out;have h2:=aJ HY.out HTY.out;have h3:nl (aZ xs-aZ ys)<=nl (aZ xs):=fT om;have h4:nl (aZ ys-aZ xs)<=nl (aZ ys):=fT om;omega
    have HU:=ac hU;clear hU;have HV:=ac hv;clear hv;have HT:=ac hT;clear hT;have HB1:=ac hb1;clear hb1
    go_wp2_with fail
    refine(gZ s1 A1 k c1 w1.heap.size zs w1 hk om (ae _) HU.out HT.out).mono ?_;rintro e w2 ⟨v,rfl,hI,hb2⟩;obtain⟨neg,A2,n2,c2,zs2,rfl,hI2⟩:=hI;have hsz:w.heap.size+1<=w1.heap.size:=by have:=HB1.out.size;simpa using this
    have hblk:gC w2 w.heap.size 50 #[.bool false,.slice none 0 0]:=(gC.below (w:=(w.alloc (Obj.cells #[aq false,ao none 0 0] 50)).drewN q) (gC.new w 50 _) HB1.out sm).below hb2 om
    have hc0:=hblk.cell 0;have hc1:=hblk.cell 1;have hf0:=hblk.frozen 0;have hf1:=hblk.frozen 1;simp only[fC,c8,ci]at hc0 hc1;have HK:=ac hblk;clear hblk;have HI:=ac hI2;clear hI2;have HB2:=ac hb2;clear hb2;go_wp2;exact cI (v:=.agg #[.bool neg,.slice A2 n2 c2]) (by simp[results,Gm,go_sem,hc0,hc1]) rfl
     (dL.cell ⟨neg,A2,n2,c2,zs2,rfl,HI.out⟩ HK.out ((HB0.out.trans (HB1.out.mono sm)).trans (HB2.out.mono om)) (ae _) (by rw[HV.out,vO hs (dB hgt)]))
   .have heq:aZ xs=aZ ys:=J9 hle hge;have hcm:=lI heq
    go_enter RW,Oe
    go_wp2_with fail
    have hb0:=(aX w.heap.size w).alloc (ae _) (Obj.cells #[aq false,ao none 0 0] 50);have hcall:=ik A B n m c d L xs ys (w.alloc (Obj.cells #[aq false,ao none 0 0] 50)) om om (HX.out.below hb0 hL) (HY.out.below hb0 hL) HTX.out HTY.out;rw[hcm]at hcall;refine hcall.mono ?_;clear hcall hcm;rintro e w1 ⟨rfl,q,rfl⟩;have HB0:=ac (hb0.trans ((d9.refl _).more q |>.below _));clear hb0
    go_wp2_with fail
    refine(pS A B n m c d L xs ys _ (by have h1:=aJ HX.out HTX.out;have h2:=aJ HY.out HTY.out;have h3:=fT (vB heq.symm);omega) om (by simp;omega) (HX.out.below HB0.out hL) (HY.out.below HB0.out hL) (vB heq.symm)).mono ?_
    rintro e w1 ⟨A1,k,c1,zs,rfl,hk,hU,hT,hv,hb1⟩;have hk2:k<=536870913:=by
     rw[aJ hU hT,hv];have h1:=aJ HX.out HTX.out;have h2:=aJ HY.out HTY.out;have h3:nl (aZ xs-aZ ys)<=nl (aZ xs):=fT om;have h4:nl (aZ ys-aZ xs)<=nl (aZ ys):=fT om;omega
    have HU:=ac hU;clear hU;have HV:=ac hv;clear hv;have HT:=ac hT;clear hT;have HB1:=ac hb1;clear hb1
    go_wp2_with fail
    refine(gZ s1 A1 k c1 w1.heap.size zs w1 hk om (ae _) HU.out HT.out).mono ?_;rintro e w2 ⟨v,rfl,hI,hb2⟩;obtain⟨neg,A2,n2,c2,zs2,rfl,hI2⟩:=hI;have hsz:w.heap.size+1<=w1.heap.size:=by have:=HB1.out.size;simpa using this
    have hblk:gC w2 w.heap.size 50 #[.bool false,.slice none 0 0]:=(gC.below (w:=(w.alloc (Obj.cells #[aq false,ao none 0 0] 50)).drewN q) (gC.new w 50 _) HB1.out sm).below hb2 om
    have hc0:=hblk.cell 0;have hc1:=hblk.cell 1;have hf0:=hblk.frozen 0;have hf1:=hblk.frozen 1;simp only[fC,c8,ci]at hc0 hc1;have HK:=ac hblk;clear hblk;have HI:=ac hI2;clear hI2;have HB2:=ac hb2;clear hb2;go_wp2;exact cI (v:=.agg #[.bool neg,.slice A2 n2 c2]) (by simp[results,Gm,go_sem,hc0,hc1]) rfl
     (dL.cell ⟨neg,A2,n2,c2,zs2,rfl,HI.out⟩ HK.out ((HB0.out.trans (HB1.out.mono sm)).trans (HB2.out.mono om)) (ae _) (by rw[HV.out,vO hs (vB heq.symm)]))

def fY(A:Option Addr)(n c B:Nat)(xs:List Nat)(w:World)(b:n<=c)(d:n<=9223372036854775807)(h:cG w B A n xs)(f:oW xs) :
  Calls ah 136 #[.slice A n c] w fun e w'=>e=.returned (.slice A n c)/\w=w' :=
 (kP A n c B xs w b d h).mono fun e w' ⟨⟨k,p,g,i,j,l⟩,m⟩=>by
  have a:=aJ i j;have o:=aJ h f;rw[l,<-o]at a;subst a;exact⟨g,m⟩
def fm{a b:Value}(h:gC w g 50 #[a,b]):w.cell? ⟨g,0,none⟩=some a/\w.cell? ⟨g,1,none⟩=some b:=by
 have c:=h.cell 0;have d:=h.cell 1;simpa using⟨c,d⟩
def Rl(va vb:Value)(za zb:Int)(B:Nat)(w:World)(hB:B<=w.heap.size)(ha:eJ w B va za)(hb:eJ w B vb zb)(sa:nl za.natAbs<=536870912)(sb:nl zb.natAbs<=536870912) :
  Calls ah 133 #[va,vb] w (dL w (za+zb)):=by
 obtain⟨s1,A,n,c,xs,rfl,hnc,hx,tx,rfl⟩:=ha;obtain⟨s2,D,m,d,ys,rfl,hmd,hy,ty,rfl⟩:=hb;rw[fP,<-aJ hx tx]at sa;rw[fP,<-aJ hy ty]at sb;have HX:=ac hx;clear hx;have HY:=ac hy;clear hy;have HTX:=ac tx;clear tx;have HTY:=ac ty;clear ty
 go_enter func133,ntmps133
 go_wp2;have hb0:=((((aX w.heap.size w).alloc (ae _) (Obj.cells #[aq s1,ao A n c] 50)).alloc sm (Obj.cells #[aq s2,ao D m d] 50)).alloc (by simp;omega) (Obj.cells #[aq false,ao none 0 0] 50))
 have k1:gC (((w.alloc (Obj.cells #[aq s1,ao A n c] 50)).alloc (Obj.cells #[aq s2,ao D m d] 50)).alloc (Obj.cells #[aq false,ao none 0 0] 50)) w.heap.size 50 #[aq s1,ao A n c] :=
  ((gC.new w 50 _).below ((aX _ _).alloc (ae _) _) sm).below ((aX _ _).alloc (ae _) _) (by simp;omega)
 have k2:gC (((w.alloc (Obj.cells #[aq s1,ao A n c] 50)).alloc (Obj.cells #[aq s2,ao D m d] 50)).alloc (Obj.cells #[aq false,ao none 0 0] 50)) (w.heap.size+1) 50 #[aq s2,ao D m d]:=by
  have h:=(gC.new (w.alloc (Obj.cells #[aq s1,ao A n c] 50)) 50 #[aq s2,ao D m d]).below ((aX _ _).alloc (ae _) (Obj.cells #[aq false,ao none 0 0] 50)) sm
  simpa using h
 have k3:gC (((w.alloc (Obj.cells #[aq s1,ao A n c] 50)).alloc (Obj.cells #[aq s2,ao D m d] 50)).alloc (Obj.cells #[aq false,ao none 0 0] 50)) (w.heap.size+2) 50 #[aq false,ao none 0 0]:=by
  have h:=gC.new ((w.alloc (Obj.cells #[aq s1,ao A n c] 50)).alloc (Obj.cells #[aq s2,ao D m d] 50)) 50 #[aq false,ao none 0 0];simpa using h
 generalize (((w.alloc (Obj.cells #[aq s1,ao A n c] 50)).alloc (Obj.cells #[aq s2,ao D m d] 50)).alloc (Obj.cells #[aq false,ao none 0 0] 50))=W at hb0 k1 k2 k3 ⊢;obtain⟨a0,a1⟩:=fm k1;obtain⟨b0,b1⟩:=fm k2;have HK1:=ac k1;clear k1;have HK2:=ac k2;clear k2;have HK3:=ac k3;clear k3;have HB0:=ac hb0;clear hb0;have hg2:w.heap.size+2<W.heap.size:=HK3.out.lt;have HS:=ac (show ∀w1,Below (w.heap.size+2) W w1->(w1.cell? ⟨w.heap.size,0,none⟩=some (.bool s1)/\w1.cell? ⟨w.heap.size,1,none⟩=some (.slice A n c)/\w1.cell? ⟨w.heap.size+1,0,none⟩=some (.bool s2)/\w1.cell? ⟨w.heap.size+1,1,none⟩=some (.slice D m d)/\Below (w.heap.size+2) W w1)from
  fun w1 h=>⟨(h.cell (by show w.heap.size<_;omega)).trans a0,(h.cell (by show w.heap.size<_;omega)).trans a1,(h.cell (by show w.heap.size+1<_;omega)).trans b0,(h.cell (by show w.heap.size+1<_;omega)).trans b1,h⟩)
 have HUX:Hid (cG W.drew B A n xs):=ac (HX.out.below HB0.out.drew hB);have HUY:Hid (cG W.drew B D m ys):=ac (HY.out.below HB0.out.drew hB)
 go_region_held3 (fun w'=>w'.cell? ⟨w.heap.size,0,none⟩=some (.bool s1)/\w'.cell? ⟨w.heap.size,1,none⟩=some (.slice A n c)/\w'.cell? ⟨w.heap.size+1,0,none⟩=some (.bool s2)/\w'.cell? ⟨w.heap.size+1,1,none⟩=some (.slice D m d)/\Below (w.heap.size+2) W w')
  (first|exact HS.out _ (aX _ _).drew|assumption|exact HS.out _ (by assumption)|exact HS.out _ (eG (eG (by assumption) sm _) sm _))
  (first
   | (go_at_call_of 136 (ao A n c);refine(fY A n c B xs W.drew hnc om HUX.out HTX.out).mono ?_;rintro e w' ⟨rfl,rfl⟩)
   | (go_at_call_of 136 (ao D m d);refine(fY D m d B ys W.drew hmd om HUY.out HTY.out).mono ?_;rintro e w' ⟨rfl,rfl⟩)
   | (go_at_call 194;refine(sF s1 s2 A D n m c d B xs ys W.drew sa sb (by show B<=W.heap.size;omega) HUX.out HUY.out HTX.out HTY.out).mono ?_;rintro e w1 ⟨v,rfl,hI,hbn⟩;obtain⟨neg,A2,n2,c2,zs2,rfl,hI2⟩:=hI;have hB1:Below (w.heap.size+2) W w1:=(aX _ W).drew.trans (hbn.mono (by show _<=W.heap.size;omega));have HI:=ac hI2;clear hI2;have hk3:=gC.below (w:=W.drew) HK3.out hbn hg2;obtain⟨e0,e1⟩:=fm hk3;have f0:=hk3.frozen 0;have f1:=hk3.frozen 1;have HK4:=ac hk3;clear hk3 hbn))
 go_wp2;exact cI (v:=.agg #[.bool neg,.slice A2 n2 c2]) (by simp[results,results133,go_sem,e0,e1]) rfl
   (dL.cell ⟨neg,A2,n2,c2,zs2,rfl,HI.out⟩ HK4.out (HB0.out.trans (hB1.mono om)) om rfl)
def QZ(va vb:Value)(za zb:Int)(B:Nat)(w:World)(hB:B<=w.heap.size)(ha:eJ w B va za)(hb:eJ w B vb zb)(sa:nl za.natAbs<=536870912)(sb:nl zb.natAbs<=536870912) :
  Calls ah 192 #[va,vb] w (dL w (za-zb)):=by
 obtain⟨s1,A,n,c,xs,rfl,hnc,hx,tx,rfl⟩:=ha;obtain⟨s2,D,m,d,ys,rfl,hmd,hy,ty,rfl⟩:=hb;rw[fP,<-aJ hx tx]at sa;rw[fP,<-aJ hy ty]at sb;have HX:=ac hx;clear hx;have HY:=ac hy;clear hy;have HTX:=ac tx;clear tx;have HTY:=ac ty;clear ty
 go_enter func192,ntmps192
 go_wp2;have hb0:=((((aX w.heap.size w).alloc (ae _) (Obj.cells #[aq s1,ao A n c] 50)).alloc sm (Obj.cells #[aq s2,ao D m d] 50)).alloc (by simp;omega) (Obj.cells #[aq false,ao none 0 0] 50))
 have k1:gC (((w.alloc (Obj.cells #[aq s1,ao A n c] 50)).alloc (Obj.cells #[aq s2,ao D m d] 50)).alloc (Obj.cells #[aq false,ao none 0 0] 50)) w.heap.size 50 #[aq s1,ao A n c] :=
  ((gC.new w 50 _).below ((aX _ _).alloc (ae _) _) sm).below ((aX _ _).alloc (ae _) _) (by simp;omega)
 have k2:gC (((w.alloc (Obj.cells #[aq s1,ao A n c] 50)).alloc (Obj.cells #[aq s2,ao D m d] 50)).alloc (Obj.cells #[aq false,ao none 0 0] 50)) (w.heap.size+1) 50 #[aq s2,ao D m d]:=by
  have h:=(gC.new (w.alloc (Obj.cells #[aq s1,ao A n c] 50)) 50 #[aq s2,ao D m d]).below ((aX _ _).alloc (ae _) (Obj.cells #[aq false,ao none 0 0] 50)) sm
  simpa using h
 have k3:gC (((w.alloc (Obj.cells #[aq s1,ao A n c] 50)).alloc (Obj.cells #[aq s2,ao D m d] 50)).alloc (Obj.cells #[aq false,ao none 0 0] 50)) (w.heap.size+2) 50 #[aq false,ao none 0 0]:=by
  have h:=gC.new ((w.alloc (Obj.cells #[aq s1,ao A n c] 50)).alloc (Obj.cells #[aq s2,ao D m d] 50)) 50 #[aq false,ao none 0 0];simpa using h
 generalize (((w.alloc (Obj.cells #[aq s1,ao A n c] 50)).alloc (Obj.cells #[aq s2,ao D m d] 50)).alloc (Obj.cells #[aq false,ao none 0 0] 50))=W at hb0 k1 k2 k3 ⊢;obtain⟨a0,a1⟩:=fm k1;obtain⟨b0,b1⟩:=fm k2;have HK1:=ac k1;clear k1;have HK2:=ac k2;clear k2;have HK3:=ac k3;clear k3;have HB0:=ac hb0;clear hb0;have hg2:w.heap.size+2<W.heap.size:=HK3.out.lt;have HS:=ac (show ∀w1,Below (w.heap.size+2) W w1->(w1.cell? ⟨w.heap.size,0,none⟩=some (.bool s1)/\w1.cell? ⟨w.heap.size,1,none⟩=some (.slice A n c)/\w1.cell? ⟨w.heap.size+1,0,none⟩=some (.bool s2)/\w1.cell? ⟨w.heap.size+1,1,none⟩=some (.slice D m d)/\Below (w.heap.size+2) W w1)from
  fun w1 h=>⟨(h.cell (by show w.heap.size<_;omega)).trans a0,(h.cell (by show w.heap.size<_;omega)).trans a1,(h.cell (by show w.heap.size+1<_;omega)).trans b0,(h.cell (by show w.heap.size+1<_;omega)).trans b1,h⟩)
 have HUX:Hid (cG W.drew B A n xs):=ac (HX.out.below HB0.out.drew hB);have HUY:Hid (cG W.drew B D m ys):=ac (HY.out.below HB0.out.drew hB)
 go_region_held3 (fun w'=>w'.cell? ⟨w.heap.size,0,none⟩=some (.bool s1)/\w'.cell? ⟨w.heap.size,1,none⟩=some (.slice A n c)/\w'.cell? ⟨w.heap.size+1,0,none⟩=some (.bool s2)/\w'.cell? ⟨w.heap.size+1,1,none⟩=some (.slice D m d)/\Below (w.heap.size+2) W w')
  (first|exact HS.out _ (aX _ _).drew|assumption|exact HS.out _ (by assumption)|exact HS.out _ (eG (eG (by assumption) sm _) sm _))
  (first
   | (go_at_call_of 136 (ao A n c);refine(fY A n c B xs W.drew hnc om HUX.out HTX.out).mono ?_;rintro e w' ⟨rfl,rfl⟩)
   | (go_at_call_of 136 (ao D m d);refine(fY D m d B ys W.drew hmd om HUY.out HTY.out).mono ?_;rintro e w' ⟨rfl,rfl⟩)
   | (go_at_call 194;refine(sF s1 (!s2) A D n m c d B xs ys W.drew sa sb (by show B<=W.heap.size;omega) HUX.out HUY.out HTX.out HTY.out).mono ?_;rintro e w1 ⟨v,rfl,hI,hbn⟩;obtain⟨neg,A2,n2,c2,zs2,rfl,hI2⟩:=hI;have hB1:Below (w.heap.size+2) W w1:=(aX _ W).drew.trans (hbn.mono (by show _<=W.heap.size;omega));have HI:=ac hI2;clear hI2;have hk3:=gC.below (w:=W.drew) HK3.out hbn hg2;obtain⟨e0,e1⟩:=fm hk3;have f0:=hk3.frozen 0;have f1:=hk3.frozen 1;have HK4:=ac hk3;clear hk3 hbn))
 go_wp2;exact cI (v:=.agg #[.bool neg,.slice A2 n2 c2]) (by simp[results,results192,go_sem,e0,e1]) rfl
   (dL.cell ⟨neg,A2,n2,c2,zs2,rfl,HI.out⟩ HK4.out (HB0.out.trans (hB1.mono om)) om (by rw[Hd];omega))
def AS(va:Value)(za:Int)(B:Nat)(w:World)(hB:B<=w.heap.size)(ha:eJ w B va za)(sa:nl za.natAbs<=536870912) :
  Calls ah 191 #[va] w fun e w'=>e=.returned (.int .i64 za.sign)/\Below w.heap.size w w':=by
 obtain⟨s1,A,n,c,xs,rfl,hnc,hx,tx,rfl⟩:=ha;rw[fP,<-aJ hx tx]at sa;have hb0:=(aX w.heap.size w).alloc (ae _) (Obj.cells #[aq s1,ao A n c] 50);have HU:=ac (hx.below hb0 hB);have HL:=ac (aJ hx tx);have HT:=ac tx;clear tx;have HX:=ac hx;clear hx;have HB:=ac hb0;clear hb0;by_cases h0:n=0
 .subst h0;have hv:aZ xs=0:=by rw[mX.1 HX.out.1]<;>rfl
  have hr:(sg s1 (aZ xs)).sign=0:=by rw[hv,tK]<;>rfl
  have HR:=ac hr;clear hr hv
  go_enter func191,Vi
  go_wp2_with fail
  refine(fY A 0 c B xs _ hnc om HU.out HT.out).mono ?_;rintro e w' ⟨rfl,rfl⟩;go_wp2;go_ret;exact⟨by rw[HR.out];rfl,HB.out⟩
 .have hv:0<aZ xs:=by
   rcases a6 (aZ xs)with h|h
   .have:=HL.out;rw[h]at this;simp[nl]at this;omega
   .exact h
  have h1:((n:Int)==0)=false:=by simp;omega
  cases s1
  .have hr:(sg false (aZ xs)).sign=1:=by simp[sg];omega
   have HR:=ac hr;clear hr hv
   go_enter func191,Vi
   go_wp2_with fail
   refine(fY A n c B xs _ hnc om HU.out HT.out).mono ?_;rintro e w' ⟨rfl,rfl⟩;go_wp2;go_ret;exact⟨by rw[HR.out];rfl,HB.out⟩
  .have hr:(sg true (aZ xs)).sign=-1:=by simp[sg];omega
   have HR:=ac hr;clear hr hv
   go_enter func191,Vi
   go_wp2_with fail
   refine(fY A n c B xs _ hnc om HU.out HT.out).mono ?_;rintro e w' ⟨rfl,rfl⟩;go_wp2;go_ret;exact⟨by rw[HR.out];rfl,HB.out⟩
def LM(z:Int)(w:World)(h1:-9223372036854775808<=z)(h2:z<=9223372036854775807):Calls ah 81 #[.int .i64 z] w (dL w z):=by
 have hb0:=(aX w.heap.size w).alloc (ae _) (Obj.cells #[aq false,ao none 0 0] 50);have HB0:=ac hb0;clear hb0;by_cases hz:z<0
 .go_enter func81,ntmps81
  go_wp2_with fail
  rw[show IntKind.u64.wrap (-IntKind.u64.wrap z)=((z.natAbs:Nat):Int)from by rw[cf,cf];omega]
  refine(kz z.natAbs _ om).mono ?_;rintro e w1 ⟨A1,k,c1,zs,rfl,hk,hU,hT,hv,hb1⟩;have hk2:k<=2:=by rw[aJ hU hT,hv];exact jS.2 om
  have HU:=ac hU;clear hU;have HV:=ac hv;clear hv;have HT:=ac hT;clear hT;have HB1:=ac hb1;clear hb1
  go_wp2_with fail
  refine(gZ true A1 k c1 w1.heap.size zs w1 hk om (ae _) HU.out HT.out).mono ?_;rintro e w2 ⟨v,rfl,hI,hb2⟩;obtain⟨neg,A2,n2,c2,zs2,rfl,hI2⟩:=hI;have hsz:w.heap.size+1<=w1.heap.size:=by have:=HB1.out.size;simpa using this
  have hblk:gC w2 w.heap.size 50 #[.bool false,.slice none 0 0]:=(gC.below (w:=w.alloc (Obj.cells #[aq false,ao none 0 0] 50)) (gC.new w 50 _) HB1.out sm).below hb2 om
  obtain⟨hc0,hc1⟩:=fm hblk;have hf0:=hblk.frozen 0;have hf1:=hblk.frozen 1;have HK:=ac hblk;clear hblk;have HI:=ac hI2;clear hI2;have HB2:=ac hb2;clear hb2;go_wp2;exact cI (v:=.agg #[.bool neg,.slice A2 n2 c2]) (by simp[results,results81,go_sem,hc0,hc1]) rfl
   (dL.cell ⟨neg,A2,n2,c2,zs2,rfl,HI.out⟩ HK.out ((HB0.out.trans (HB1.out.mono sm)).trans (HB2.out.mono om)) (ae _) (by rw[HV.out];simp[sg];omega))
 .go_enter func81,ntmps81
  go_wp2_with fail
  obtain⟨v0,rfl⟩:∃v0:Nat,z=(v0:Int):=⟨z.toNat,om⟩
  refine(kz v0 _ om).mono ?_;rintro e w1 ⟨A1,k,c1,zs,rfl,hk,hU,hT,hv,hb1⟩;have hk2:k<=2:=by rw[aJ hU hT,hv];exact jS.2 om
  have HU:=ac hU;clear hU;have HV:=ac hv;clear hv;have HT:=ac hT;clear hT;have HB1:=ac hb1;clear hb1
  go_wp2_with fail
  refine(gZ false A1 k c1 w1.heap.size zs w1 hk om (ae _) HU.out HT.out).mono ?_;rintro e w2 ⟨v,rfl,hI,hb2⟩;obtain⟨neg,A2,n2,c2,zs2,rfl,hI2⟩:=hI;have hsz:w.heap.size+1<=w1.heap.size:=by have:=HB1.out.size;simpa using this
  have hblk:gC w2 w.heap.size 50 #[.bool false,.slice none 0 0]:=(gC.below (w:=w.alloc (Obj.cells #[aq false,ao none 0 0] 50)) (gC.new w 50 _) HB1.out sm).below hb2 om
  obtain⟨hc0,hc1⟩:=fm hblk;have hf0:=hblk.frozen 0;have hf1:=hblk.frozen 1;have HK:=ac hblk;clear hblk;have HI:=ac hI2;clear hI2;have HB2:=ac hb2;clear hb2;go_wp2;exact cI (v:=.agg #[.bool neg,.slice A2 n2 c2]) (by simp[results,results81,go_sem,hc0,hc1]) rfl
   (dL.cell ⟨neg,A2,n2,c2,zs2,rfl,HI.out⟩ HK.out ((HB0.out.trans (HB1.out.mono sm)).trans (HB2.out.mono om)) (ae _) (by rw[HV.out];simp[sg]))

end Go.Proofs.YtdobfmlmenaajaaGreatDoor
