/-
  Lemmas for NeighbourVerify.
-/
import Derived.Test.YtdobfmlmenaajaaGreatDoorProg
import Derived.WalkKit
import Derived.WalkLawsBesides
import Derived.WalkSpells
import Derived.Below
import Derived.Lib.Hide
import Derived.Laws.MakeOwn
import Derived.Laws.OwnMore
import Derived.Laws.NewBlocks
import Derived.Laws.Rows
import Derived.Deep.Draws
import Derived.Deep.QuietTactic
import Derived.BigQuiet
import Derived.Outline
import Derived.KernelRfl
import Derived.Laws.BitsAllLaws
import Derived.Laws.BitsAll
import Derived.StillTailTactics
import Derived.Deep.RegionHeld3
namespace Go.Proofs.YtdobfmlmenaajaaGreatDoor
open Go.RowKit Tryz
open _root_.List renaming replicate→bZ,getD→cS
open Tryz renaming prog→ai
open Value renaming slice→ao,bool→au,int→dL
set_option maxHeartbeats 6400000
set_option maxRecDepth 4096
set_option linter.all false
theorem an{a b:Prop}(h:b)(k:a:=by omega):a∧b:=⟨k,h⟩
theorem om{p:Prop}(h:p:=by omega):p:=h
theorem nn{a b:Nat}(h:a≠b):a≠b∧b≠a:=⟨h,Ne.symm h⟩
theorem kr{p:Prop}(h:p:=by kernel_rfl):p:=h
theorem sm{p:Prop}(h:p:=by simp):p:=h
theorem dc{p:Prop}(h:p:=by decide):p:=h
def aa:=@Nat.add_one_le_iff
def ac:=@Go.Lib.hid
def ae:=@Nat.le_refl
def af:=@if_neg
def ah:=@if_pos
def aj:=@Ne.symm
def ak:=@Nat.eq_of_beq_eq_true
def ay:=@Bool.and_eq_true
def az:=@Nat.zero_add
def aA:=@Nat.mul_comm
def aD:=@Nat.mul_le_mul_right
def aE:=@List.all_eq_true
def aF:=@Nat.lt_or_ge
def aK:=@if_true
def aL:=@Nat.mul_le_mul_left
def aM:=@if_false
def aN:=@Int.tmod_eq_emod_of_nonneg
def aP:=@Int.emod_lt_of_pos
def aR:=@List.not_mem_nil
def aT:=@Int.emod_nonneg
def aV:=@Nat.mul_le_mul
def aY:=@Go.RowKit.Below.refl
def a8:=@List.forall_mem_cons
def a9:=@Nat.le_trans
def bn:=@Nat.eq_zero_or_pos
def bB:=@Nat.mul_assoc
def bE:=@List.getElem?_eq_getElem
def bF:=@Int.natCast_mul
def bH:=@List.getD_cons_succ
def bK:=@Bool.false_eq_true
def bO:=@Go.run_underlying
def bQ:=@Or.inr
def bS:=@List.getD_cons_zero
def bU:=@bne_self_eq_false
def bV:=@List.take_of_length_le
def bW:=@Or.inl
def ca:=@Int.mul_le_mul_of_nonneg_left
def cf:=@Nat.pow_succ
def ci:=@Go.IntKind.wrap_u64
def cj:=@Nat.mul_add
def ck:=@Int.mul_comm
def cn:=@List.getElem?_cons_succ
def cq:=@Nat.sub_self
def ct:=@List.size_toArray
def cu:=@Nat.pow_le_pow_right
def cA:=@List.length_cons
def cB:=@Int.mul_le_mul_of_nonneg_right
def cC:=@Int.le_of_lt
def cD:=@Int.dvd_mul_of_dvd_right
def cE:=@Nat.le_of_ble_eq_true
def cF:=@Array.getElem?_eq_getElem
def cG:=@false_implies
def cH:=@Int.natAbs_mul
def cK:=@List.getElem?_eq_none
def cL:=@Int.eq_of_mul_eq_mul_left
def cM:=@Go.bodyPost_ret
def cN:=@Nat.add_zero
def cO:=@Int.natCast_nonneg
def cP:=@implies_true
def cQ:=@Array.getD_eq_getD_getElem?
def cR:=@Int.dvd_of_emod_eq_zero
def cT:=@Nat.lt_irrefl
def cU:=@List.map_cons
def cV:=@Option.map_some
def cW:=@Option.map_eq_some_iff
def c9:=@List.getElem?_cons_zero
def da:=@Int.mul_le_mul
def dh:=@Nat.mod_lt
def di:=@Int.mul_ediv_cancel_left
def dj:=@decide_eq_true_eq
def dl:=@Nat.succ_mul
def dp:=@Nat.le_of_lt
def dq:=@Int.sign_eq_one_of_pos
def dr:=@Int.mul_nonneg
def dw:=@beq_self_eq_true
def dz:=@Nat.div_add_mod
def dC:=@Classical.choose_spec
def dF:=@List.flatMap_cons
def dG:=@Int.one_mul
def dH:=@Int.emod_eq_of_lt
def dJ:=@Option.bind_some
def dK:=@Nat.lt_of_lt_of_le
def dO:=@Int.toNat_of_nonneg
def dS:=@Nat.lt_trichotomy
def dV:=@Nat.add_mul
def dW:=@Classical.byContradiction
def d5:=@Array.getElem?_setIfInBounds_ne
def d6:=@Nat.sub_zero
def d7:=@Nat.mul_zero
def d9:=@List.mem_cons_of_mem
def ed:=@List.mem_cons
def ef:=@Nat.mod_eq_of_lt
def eg:=@Int.toNat_natCast
def ep:=@List.getElem?_append_right
def er:=@Array.getElem?_eq_some_iff
def eA:=@Nat.mul_succ
def eB:=@Int.emod_add_mul_ediv
def eJ:=@List.getElem?_eq_some_iff
def eL:=@List.getElem?_append_left
def eM:=@Int.natCast_add
def eN:=@Array.getElem?_eq_none
def eR:=@Go.RowKit.Below.setCell
def eS:=@Nat.lt_of_le_of_lt
def eT:=@Nat.add_sub_cancel
def eU:=@List.mem_cons_self
def eX:=@Bool.or_eq_true
def eY:=@Nat.div_eq_of_lt
def eZ:=@Int.sign_eq_neg_one_of_neg
def fm:=@Int.emod_eq_zero_of_dvd
def fo:=@Array.getElem?_append_left
def fv:=@Option.some.injEq
def fy:=@Int.lt_trichotomy
def fJ:=@List.getElem?_take_of_lt
def fK:=@Int.mul_assoc
def fN:=@List.getElem?_toArray
def fP:=@Int.mul_emod
def fR:=@Nat.pow_add
def fS:=@List.mem_range
def fT:=@List.mem_of_getElem?
def fU:=@Int.tdiv_eq_ediv_of_nonneg
def fX:=@Option.map_none
def fY:=@List.length_nil
def fZ:=@Int.mul_eq_zero
def gn:=@Go.Proofs.Tryz.underlying48
def gA:=@Option.getD_some
def gC:=@Int.pow_succ
def gD:=@Int.le_trans
def gN:=@List.eq_of_mem_replicate
def gS:=@Array.ext'
def gV:=@List.length_take
def gW:=@Int.mul_ediv_cancel'
def gX:=@Int.dvd_mul_of_dvd_left
def il:=@Prod.mk.injEq
def im:=@List.mem_map
def io:=@List.getD_eq_getElem?_getD
def ip:=@Array.size_append
def it:=@beq_eq_false_iff_ne
def iw:=@Bool.or_eq_true_iff
def ix:=@Go.Result.andThen_ok
def iy:=@Nat.min_eq_left
def iz:=@Nat.div_le_self
def iF:=@Nat.pos_of_ne_zero
def iG:=@Int.natAbs_natCast
def iI:=@Array.getElem?_setIfInBounds_self_of_lt
def iL:=@Int.dvd_refl
def iN:=@Int.mul_one
def iO:=@Int.dvd_add
def i7:=@not_false_eq_true
def i9:=@Int.eq_ofNat_of_zero_le
def jc:=@Nat.two_pow_pos
def jp:=@Int.dvd_zero
def jq:=@Classical.em
def jz:=@or_false
def jA:=@congrArg
def jC:=@Int.ofNat_tmod
def jJ:=@Go.heap_alloc_new
def jL:=@Int.natAbs_ediv_le_natAbs
def jM:=@Int.le_of_mul_le_mul_left
def jS:=@Option.some.inj
def jT:=@List.cons.injEq
def jW:=@Nat.zero_le
def jX:=@Nat.pow_pos
def jY:=@Nat.add_comm
def jZ:=@Int.mul_zero
def j8:=@Int.emod_emod_of_dvd
def ko:=@Go.Sem.run_bind
def kt:=@List.replicate_succ
def kv:=@true_and
def kw:=@Int.natCast_emod
def kP:=@Nat.shiftLeft_add_eq_or_of_lt
def kQ:=@Nat.one_mul
def kT:=@List.drop_of_length_le
def kU:=@Int.zero_mul
def k9:=@Nat.mul_add_div
def lk:=@Nat.add_assoc
def lv:=@List.length_replicate
def lw:=@Array.getElem?_append
def lA:=@of_decide_eq_true
def lC:=@Nat.mul_lt_mul_of_pos_right
def lD:=@List.getElem?_map
def lE:=@Bool.not_eq_true'
def lL:=@Nat.mod_two_eq_zero_or_one
def lM:=@Int.mul_pos
def l5:=@List.map_nil
def l6:=@List.cons_append
def l7:=@Int.ofNat_le
def l8:=@Int.natCast_ediv
def l9:=@Int.lt_or_le
def mb:=@Int.sign_eq_zero_iff_zero
def me:=@List.map_congr_left
def mg:=@Int.natAbs_mul_self
def mC:=@Go.IntKind.wrap_i64
def m9:=@Nat.mul_add_mod
def nd:=@Int.ediv_nonneg
def nf:=@Nat.lt_or_gt_of_ne
def ni:=@Bool.false_ne_true
def nj:=@Array.ext_getElem?
def ny:=@List.length_eq_zero_iff
def nB:=@Int.mul_neg
def nZ:=@decide_eq_true
def n9:=@List.take_succ_eq_append_getElem
def oa:=@Int.toNat_zero
def oI:=@Int.natAbs_dvd_natAbs
def oJ:=@Int.mul_ediv_add_emod
def oU:=@beq_iff_eq
def oZ:=@Nat.blt_eq
def o0:=@Int.ediv_le_self
def pn:=@Int.le_of_dvd
def pw:=@Int.mul_sub
def px:=@Int.ediv_emod_unique
def p9:=@decide_eq_false
def qb:=@List.mem_filter
def qc:=@Int.neg_mul_neg
def qd:=@Go.wpList_append_own_at
def qQ:=@Nat.le_of_eq
def q8:=@List.getElem?_take
def q9:=@List.getElem?_drop
def ra:=@Bool.not_false
def sv:=@Nat.le_of_mul_le_mul_left
def sw:=@List.drop_eq_getElem_cons
def sB:=@Go.Proofs.Tryz.ntmps216
def sC:=@Nat.sub_sub
def sE:=@Int.neg_mul
def sF:=@Int.le_refl
def sG:=@Go.DataW.trod_int
def tf:=@Int.sign_zero
def tO:=@Nat.shiftLeft_eq
def tP:=@List.getElem?_replicate
def vR:=@Go.Proofs.Tryz.func216
def vS:=@Nat.zero_mul
def vT:=@Int.zero_sub
def wY:=@List.nodup_cons
def wZ:=@List.nil_append
def xa:=@List.append_nil
def xh:=@Int.natCast_one
def xY:=@Go.Proofs.Tryz.underlying195
def yc:=@Nat.div_lt_iff_lt_mul
def yd:=@List.take_append_drop
def ye:=@Int.mul_tdiv_add_tmod
def yi:=@Go.u64_or_nat
def yv:=@Go.Code.wp_mono
def yQ:=@and_true
def yS:=@Nat.testBit_or
def yT:=@Nat.pow_lt_pow_right
def yU:=@Nat.mul_one
def yV:=@List.getElem?_set_ne
def yW:=@List.drop_zero
def yX:=@Int.add_mul
def A9:=@Go.Lib.run_eql_slice_nil
def Bi:=@And.intro
def Bk:=@List.filterMap_cons
def Bu:=@ne_eq
def BH:=@Go.World.cell?_of_block
def BM:=@Nat.le_of_dvd
def BT:=@Bool.not_true
def CS:=@List.length_append
def CT:=@Int.mul_nonpos_of_nonpos_of_nonneg
def Dp:=@Go.run_firstCells_some
def EI:=@Go.Proofs.Tryz.ntmps84
def EJ:=@List.append_assoc
def EK:=@Int.zero_add
def EM:=@Int.ediv_neg
def EN:=@Array.all_eq_true_iff_forall_mem
def Gm:=@Go.Proofs.Tryz.results194
def GL:=@Nat.and_two_pow_sub_one_eq_mod
def GM:=@List.getElem_mem
def GN:=@List.flatMap_nil
def II:=@Go.World.ownsRow_nil
def IM:=@Go.Sem.run_pure
def IR:=@Nat.mul_pos
def IS:=@List.getLast?_eq_some_getLast
def IW:=@Int.pow_pos
def IX:=@Int.neg_neg
def IY:=@Int.dvd_sub
def Kf:=@Go.Proofs.Tryz.func84
def Kh:=@Nat.not_lt_zero
def Ki:=@Nat.le_antisymm
def Kk:=@List.mem_append
def Kl:=@Int.pow_ne_zero
def Km:=@Int.neg_one_mul
def Ko:=@Int.mul_ediv_mul_of_pos_left
def L4:=@Go.IntKind.wrap_u32
def Mc:=@Array.getElem?_append_right
def Mi:=@Nat.lt_of_mul_lt_mul_right
def Mj:=@List.take_zero
def Mk:=@Int.natAbs_neg
def Ml:=@Int.add_mul_emod_self_left
def OD:=@Go.Proofs.Tryz.ntmps194
def OE:=@Go.Proofs.Tryz.ntmps137
def OJ:=@Nat.add_mul_mod_self_left
def O9:=@Int.mul_tdiv_cancel_left
def Pa:=@Int.lt_irrefl
def Pb:=@Go.RowKit.Below.heap_setCell
def Pc:=@Array.getElem?_replicate
def Q8:=@and_false
def Rw:=@Nat.le_mul_of_pos_right
def Sm:=@Go.Proofs.Tryz.underlying50
def Sn:=@Go.Proofs.Tryz.underlying41
def So:=@Go.Proofs.Tryz.func194
def Sp:=@Go.Proofs.Tryz.func137
def Sx:=@Nat.div_div_eq_div_mul
def Sy:=@List.getElem?_set_self
def Sz:=@Int.sub_emod
def SA:=@Int.ofNat_lt
def SB:=@Int.neg_tmod
def SC:=@Int.emod_neg
def SD:=@Int.emod_def
def SE:=@Int.add_emod
def SF:=@Int.add_comm
def Ud:=@List.singleton_append
def Ue:=@List.countP_le_length
def Uk:=@Array.getElem?_modify
def UL:=@and_self
def UQ:=@Go.Proofs.Tryz.underlying5
def UR:=@Go.Proofs.Tryz.underlying4
def US:=@Go.Proofs.Tryz.underlying2
def UT:=@Nat.pow_one
def UU:=@Nat.or_comm
def UV:=@Nat.mul_pow
def UW:=@Nat.add_mul_div_left
def UX:=@Int.mul_add
def UY:=@Int.emod_lt
def U0:=@Go.RowKit.Below.heap_alloc
def U4:=@Nat.testBit_two_pow
def U5:=@Nat.pow_le_pow_left
def U6:=@List.take_succ_cons
def U7:=@Array.length_toList
def U8:=@bne_iff_ne
def U9:=@Option.toList_some
def Va:=@Nat.mod_le
def Vb:=@Nat.lt_of_le_of_ne
def Vc:=@Nat.and_one_is_mod
def Vd:=@List.mem_singleton
def Ve:=@List.mem_replicate
def Vf:=@List.mem_filterMap
def Vg:=@Int.tmod_lt_of_pos
def Vh:=@Int.lt_or_eq_of_le
def Vi:=@Array.getElem?_map
def Vj:=@Go.grownCap_ge
def Vk:=@dif_pos
def Vl:=@Nat.mul_left_comm
def Vm:=@Int.mul_left_comm
def Vn:=@Int.dvd_mul_right
def Vo:=@Go.run_callFunc_extern
def Vp:=@false_iff
def Vq:=@Go.Proofs.Tryz.results87
def Vr:=@Go.Proofs.Tryz.results82
def Vs:=@Go.Proofs.Tryz.func4
def Vt:=@Nat.lt_succ_self
def Vu:=@List.any_eq_true
def Vv:=@Int.dvd_antisymm
def Vw:=@Go.RowKit.Below.trod
def Vx:=@Go.u32_or_nat
def Vy:=@Nat.one_ne_zero
def Vz:=@Nat.le_add_left
def VB:=@List.length_set
def VC:=@Int.natCast_pow
def VD:=@Int.natAbs_zero
def VE:=@Int.natAbs_tmod
def VF:=@Go.World.ownsRow_lit
def VG:=@Go.Proofs.Tryz.ntmps196
def VH:=@Go.Proofs.Tryz.ntmps195
def VI:=@Go.Proofs.Tryz.ntmps191
def VJ:=@Go.Proofs.Tryz.ntmps189
def VK:=@Go.Proofs.Tryz.ntmps140
def VL:=@List.mapM_cons
def VM:=@Int.ofNat_tdiv
def VN:=@Go.DataW.trod_struct
def VO:=@Bool.and_false
variable{z:Int}{l xs zs:List Nat}{B B' a b c d g i k n p r vx vy vz x y:Nat}{A D:Option Addr}{t:TypeId}{u v:Value}{w w' wr:World}
def aZ:List Nat->Nat
 | []=>0
 | x::l=>x+4294967296*aZ l
def nH(l:List Nat):Prop:=∀x∈l,x<4294967296
def pk(l:List Nat):Prop:=∀x,l.getLast? = some x->x≠0
def zt(a b:List Nat):aZ (a++b)=aZ a+4294967296^a.length*aZ b:=by
 induction a with
 | nil=>simp[aZ]
 | cons x a ih=>simp only[l6,aZ,ih,cA,cf];rw[cj,lk,<-bB,aA (4294967296^a.length) 4294967296]
def iD(a:List Nat)(x:Nat):aZ (a++[x])=aZ a+4294967296^a.length*x:=by
 rw[zt];simp[aZ]
def eD(l:List Nat)(k:Nat)(h:k<l.length):aZ (l.take (k+1))=aZ (l.take k)+4294967296^k*l.getD k 0:=by
 rw[n9 h,iD,gV,iy (dp h)];simp[cS,bE h]
def nH.getD(h:nH l)(k:Nat):l.getD k 0<4294967296:=by
 rcases aF k l.length with a|a
 .simp only[cS,bE a,gA];exact h _ (GM a)
 .simp[cS,cK a]
def nH.snoc(h:nH l){x:Nat}(b:x<4294967296):nH (l++[x]):=by
 intro y c;rcases Kk.1 c with a|a
 .exact h y a
 .rw[Vd.1 a];exact b
def nH.take(h:nH l)(k:Nat):nH (l.take k):=fun x a=>h x (List.mem_of_mem_take a)
def jD(h:nH l):aZ l<4294967296^l.length:=by
 induction l with
 | nil=>simp[aZ]
 | cons x l ih =>
  have b:=ih (fun y a=>h y (d9 _ a));have c:=h x (eU ..);simp only[aZ,cA,cf];generalize 4294967296^l.length=p at *;omega
def nT(k:Nat)(l:List Nat)(h:∀j,k<=j->l.getD j 0=0):aZ l=aZ (l.take k):=by
 induction l generalizing k with
 | nil=>simp
 | cons x l ih =>
  cases k with
  | zero =>
   have b:x=0:=by simpa [cS]using h 0 (ae _)
   have a:=ih 0 (fun j _=>by have:=h (j+1) om;simpa [cS]using this)
   simp only[Mj,aZ]at a ⊢;omega
  | succ k =>
   have a:=ih k (fun j c=>by have:=h (j+1) om;simpa [cS]using this)
   simp only[U6,aZ];omega
def rM{car:Nat}(h:vz+car*p=vx+vy) :
  vz+p*((car+(x+y))%4294967296)+(car+(x+y))/4294967296*(p*4294967296)=(vx+p*x)+(vy+p*y):=by
 have a:=dz (car+(x+y)) 4294967296;have:p*((car+(x+y))%4294967296)+(car+(x+y))/4294967296*(p*4294967296)=p*(car+(x+y)):=by
  calc
   p*((car+(x+y))%4294967296)+(car+(x+y))/4294967296*(p*4294967296)
   =p*(4294967296*((car+(x+y))/4294967296)+(car+(x+y))%4294967296):=by
     rw[cj];rw[jY];congr 1;rw[aA,bB]
   _=p*(car+(x+y)):=by rw[a]
 rw[lk,this,cj,cj,aA p car];omega
def vV(l:List Nat)(i:Nat)(h:i<l.length):aZ l=aZ (l.take i)+4294967296^i*(l.getD i 0+4294967296*aZ (l.drop (i+1))):=by
 have a:l=l.take i++l[i]::l.drop (i+1):=by rw[List.getElem_cons_drop,yd]
 have b:aZ l=aZ (l.take i++l[i]::l.drop (i+1)):=by rw[<-a]
 rw[b,zt,gV,iy (dp h)];simp[aZ,cS,bE h]
def rW{a b:List Nat}(d:nH a)(c:i<a.length)(g:a.length=b.length)(e:a.drop (i+1)=b.drop (i+1))(h:a.getD i 0<b.getD i 0):aZ a<aZ b:=by
 rw[vV a i c,vV b i om,e];have f:=jD (d.take i);rw[gV,iy (dp c)]at f;generalize 4294967296^i=p at *;generalize aZ (b.drop (i+1))=v at *;have j:p*(a.getD i 0+4294967296*v)+p<=p*(b.getD i 0+4294967296*v):=by
  rw[<-eA];exact aL _ om
 omega
def ti(h:pk l)(a:l≠[]):4294967296^(l.length-1)<=aZ l:=by
 have b:=List.dropLast_concat_getLast a;have c:aZ l=aZ (l.dropLast++[l.getLast a]):=by rw[b]
 rw[c,iD,List.length_dropLast];have e:l.getLast a≠0:=h _ (by rw[IS a])
 have d:1<=l.getLast a:=om
 calc
  4294967296^(l.length-1)=4294967296^(l.length-1)*1:=om
  _<=4294967296^(l.length-1)*l.getLast a:=aL _ d
  _<=_:=Vz _ _
def qh{a b:List Nat}(c:nH a)(d:pk b)(h:a.length<b.length):aZ a<aZ b:=by
 have f:=jD c;have g:=ti d (by intro e;subst e;simp at h)
 have i:(4294967296:Nat)^a.length<=4294967296^(b.length-1):=cu om om;omega
def lB(a b:Nat):Int:=if a<b then -1 else if b<a then 1 else 0
def lW(h:a<b):lB a b=-1:=by simp[lB,h]
def kN(h:b<a):lB a b=1:=by
 have c:¬a<b:=om
 simp[lB,h,c]
def lX(h:a=b):lB a b=0:=by simp[lB,h]
def Fg{bo:Nat}(h:vz+vy=vx+bo*p)(g:bo<=1)(i:x<4294967296)(j:y<4294967296) :
  ∃z b,z=(x+18446744073709551616-bo-y)%4294967296/\b=(x+18446744073709551616-bo-y)%18446744073709551616/9223372036854775808/\z<4294967296/\b<=1 /\
   (vz+p*z)+(vy+p*y)=(vx+p*x)+b*(p*4294967296):=by
 refine⟨_,_,rfl,rfl,om,om,?_⟩
 rcases aF x (bo+y)with d|e
 .have a:(x+18446744073709551616-bo-y)%4294967296=x+4294967296-bo-y:=om
  have c:(x+18446744073709551616-bo-y)%18446744073709551616/9223372036854775808=1:=om
  rw[a,c];have f:p*(x+4294967296-bo-y)+p*y+p*bo=p*x+p*4294967296:=by
   rw[<-cj,<-cj,<-cj];congr 1;omega
  rw[aA bo p]at h;omega
 .have a:(x+18446744073709551616-bo-y)%4294967296=x-bo-y:=om
  have c:(x+18446744073709551616-bo-y)%18446744073709551616/9223372036854775808=0:=om
  rw[a,c];have f:p*(x-bo-y)+p*y+p*bo=p*x:=by
   rw[<-cj,<-cj];congr 1;omega
  rw[aA bo p]at h;omega
def nl(v:Nat):Nat:=if v=0 then 0 else v.log2/32+1
def zU(k:Nat):(4294967296:Nat)^k=2^(32*k):=by
 rw[show(4294967296:Nat)=2^32 from rfl,<-Nat.pow_mul]
def kb{v:Nat}:nl v<=k↔v<4294967296^k:=by
 unfold nl;split
 .subst_vars
  simp[jX]
 .rename_i a;rw[zU,<-Nat.log2_lt a];omega
def gk(h:a<=b):nl a<=nl b:=kb.2 (eS h (kb.1 (ae _)))
def Nn(a b:Nat):nl (a+b)<=max (nl a) (nl b)+1:=by
 rw[kb,cf];have c:a<4294967296^(max (nl a) (nl b)):=kb.1 om;have d:b<4294967296^(max (nl a) (nl b)):=kb.1 om;generalize 4294967296^(max (nl a) (nl b))=p at *;omega
def Te(a b:Nat):nl (a*b)<=nl a+nl b:=by
 rw[kb,fR];exact Nat.mul_lt_mul'' (kb.1 (ae _)) (kb.1 (ae _))
def DE(b:nH xs)(c:pk xs):xs.length=nl (aZ xs):=by
 apply Ki
 .rcases bn xs.length with h|h
  .omega
  .have f:=ti c (by intro e;subst e;simp at h)
   rcases aF (nl (aZ xs)) xs.length with a|a
   .have d:nl (aZ xs)<=xs.length-1:=om
    have g:=kb.1 d;omega
   .exact a
 .exact kb.2 (jD b)
def sg(neg:Bool)(v:Nat):Int:=if neg then -(v:Int)else v
def fV(neg:Bool)(v:Nat):(sg neg v).natAbs=v:=by cases neg<;>simp[sg]
def Hd(neg:Bool)(v:Nat):sg (!neg) v=-sg neg v:=by cases neg<;>simp[sg]
def tZ(neg:Bool):sg neg 0=0:=by cases neg<;>simp[sg]

def n0(a:Addr)(n:Nat):(a.add n).block=a.block:=by unfold Addr.add;split<;>rfl
def gK(w:World)(g:Nat)(t:TypeId)(cs:Array Value):Prop:=w.heap[g]? = some (.cells cs t (0,0))
section
variable {w w':World} {g:Nat} {t:TypeId} {cs:Array Value}
def gK.lt(h:gK w g t cs):g<w.heap.size:=by
 rcases aF g w.heap.size with a|b
 .exact a
 .unfold gK at h;rw[eN b]at h;cases h
def gK.cell(h:gK w g t cs)(i:Nat):w.cell? ⟨g,i,none⟩=cs[i]?:=cell_of_row w g i cs t (0,0) h
def gK.frozen(h:gK w g t cs)(i:Nat):w.frozen? ⟨g,i,none⟩=false:=by
 unfold gK at h;simp[World.frozen?,h]
def gK.new(w:World)(t:TypeId)(cs:Array Value):gK (w.alloc (.cells cs t)) w.heap.size t cs:=jJ w _
def gK.set_(h:gK w g t cs)(i:Nat)(u:Value):gK (w.setCell ⟨g,i,none⟩ u) g t (cs.setIfInBounds i u):=by
 unfold gK at h ⊢;simp[World.setCell,Uk,h]
def gK.below(h:gK w g t cs)(a:Below B w w')(b:g<B):gK w' g t cs:=(a.block g b).trans h
end
def eh(w w':World):Prop:=∃n,w'=w.drewN n
def eh.refl(w:World):eh w w:=⟨0,rfl⟩
def eh.more(h:eh w w')(n:Nat):eh w (w'.drewN n):=by
 obtain⟨k,rfl⟩:=h;exact⟨k+n,by rw[World.drewN_drewN]⟩
def eh.below(h:eh w w')(B:Nat):Below B w w':=by
 obtain⟨k,rfl⟩:=h;exact⟨rfl,rfl,rfl,ae _,fun _ _=>rfl⟩
def eh.heap(h:eh w w'):w'.heap=w.heap:=by obtain⟨k,rfl⟩:=h;rfl
def eh.cell(h:eh w w')(a:Addr):w'.cell? a=w.cell? a:=by obtain⟨k,rfl⟩:=h;rfl
def cI(w:World)(B:Nat)(A:Option Addr)(n:Nat)(xs:List Nat):Prop :=
 xs.length=n/\nH xs/\(0<n->∃ad:Addr,A=some ad/\ad.block<B/\∀j,j<n->w.cell? (ad.add j)=some (.int .u32 (xs.getD j 0)))
def cI.below(h:cI w B A n xs)(a:Below B' w w')(g:B<=B'):cI w' B A n xs :=
 ⟨h.1,h.2.1,fun b=>by
  obtain⟨ad,e,c,d⟩:=h.2.2 b;exact⟨ad,e,c,fun j f=>(a.cell (by rw[n0];omega)).trans (d j f)⟩⟩
def cI.still(h:cI w B A n xs)(a:eh w w'):cI w' B A n xs :=
 h.below (a.below B) (ae _)
def cI.more(h:cI w B A n xs)(c:B<=B'):cI w B' A n xs :=
 ⟨h.1,h.2.1,fun a=>by
  obtain⟨ad,e,d,b⟩:=h.2.2 a;exact⟨ad,e,om,b⟩⟩
def cI.at_(h:cI w B A n xs){k:Nat}(a:k<n) :
  ∃(ad:Addr) (x:Nat),A=some ad/\ad.block<B/\xs.getD k 0=x/\x<4294967296/\w.cell? (ad.add k)=some (.int .u32 x):=by
 obtain⟨ad,e,b,c⟩:=h.2.2 om;exact⟨ad,_,e,b,rfl,h.2.1.getD k,c k a⟩
def cI.take(h:cI w B A n xs){k:Nat}(d:k<=n):cI w B A k (xs.take k) :=
 ⟨by rw[gV,h.1];omega,h.2.1.take k,fun f=>by
  obtain⟨ad,e,a,b⟩:=h.2.2 om;exact⟨ad,e,a,fun j c=>by rw[b j om];simp[cS,c]⟩⟩
def dT(zs:List Nat)(r:Nat):Array Value:=((zs++bZ r 0).map (fun x:Nat=>dL .u32 x)).toArray
def mJ(zs:List Nat)(r k:Nat)(h:k<zs.length+r):(dT zs r)[k]? = some (.int .u32 ((zs++bZ r 0).getD k 0)):=by
 have a:k<(zs++bZ r 0).length:=by simpa using h
 simp only[dT,fN,lD,bE a,cV,cS,gA]
def Bx(zs:List Nat)(r x:Nat):(dT zs (r+1)).setIfInBounds zs.length (.int .u32 x)=dT (zs++[x]) r:=by
 simp[dT,kt]
def Bz(r:Nat):dT [] r=Array.replicate r (.int .u32 0):=by simp[dT]
def cI.ofBlk(h:gK w g 136 (dT zs r))(a:nH zs){B:Nat}(b:g<B)(c:r=0):cI w B (some ⟨g,0,none⟩) zs.length zs :=
 ⟨rfl,a,fun _=>⟨_,rfl,b,fun j e=>by
  subst c;have d:(⟨g,0,none⟩:Addr).add j=⟨g,j,none⟩:=by unfold Addr.add;split<;>simp_all
  rw[d,h.cell,mJ _ _ _ om];simp⟩⟩
def DA(n:Nat)(b:n<=1073741824)(w:World) :
  (Instr.makeSlice 48 (.int .i64 n) (.int .i64 n)).run ai w=.ok (.slice (some ⟨w.heap.size,0,none⟩) n n) (w.alloc (.cells (dT [] n) 136)):=by
 have h:=run_make (P:=ai) w 48 136 Tryz.t136 (.int .u32 0) gn kr kr .i64 .i64 (n:Int) (n:Int) om om (by show(4:Int)*(n:Int)<=_;omega) om
 have a:Tryz.t136.size=1:=by kernel_rfl
 have e:madeCells (dL .u32 0).cells ((n:Int).toNat*Tryz.t136.size)=dT [] n:=by
  rw[a,yU,eg,Bz];apply Array.ext
  .simp[madeCells]
  .intro i c d;simp[madeCells,Value.cells,Nat.mod_one]
 rw[e,eg]at h;exact h

def qH(w:World)(v:Nat)(e:Ending)(w':World):Prop :=
 ∃(A:Option Addr) (n c:Nat) (zs:List Nat),e=.returned (.slice A n c)/\n<=c/\cI w' w'.heap.size A n zs/\pk zs/\aZ zs=v/\Below w.heap.size w w'
def tV(h:0<k->xs.getD (k-1) 0≠0)(d:k<=xs.length):pk (xs.take k):=by
 intro x a;rcases bn k with b|b
 .subst b;simp at a
 .have c:=h b;rw[List.getLast?_eq_getElem?,gV,iy d,fJ om]at a;simp only[cS,a,gA]at c;exact c
def lc(A:Option Addr)(n c B:Nat)(xs:List Nat)(w:World)(hn:n<=c)(hm:n<=9223372036854775807)(h:cI w B A n xs) :
  Calls ai 136 #[.slice A n c] w fun e w'=>(∃k,k<=n/\e=.returned (.slice A k c)/\cI w B A k (xs.take k)/\pk (xs.take k)/\aZ (xs.take k)=aZ xs)/\w=w':=by
 have HH:=ac h;clear h
 go_enter func136,ntmps136
 go_wp2
 go_loop [0] (fun s=>∃k:Nat,k<=n/\s=.slice A k c/\Hid (∀j,k<=j->xs.getD j 0=0)) (fun s=>match s with|.slice _ k _=>k|_=>0)
 case atStart=>exact⟨n,ae _,rfl,ac (fun j hj=>by simp[cS,cK (show xs.length<=j by rw[HH.out.1];exact hj)])⟩
 case round =>
  obtain⟨k,hk,rfl,hz⟩:=hrel;by_cases h0:k=0
  .subst h0;go_wp2;go_ret;exact⟨⟨0,om,rfl,HH.out.take om,tV (fun h=>absurd h om) om,(nT 0 xs hz.out).symm⟩,rfl⟩
  .obtain⟨m,rfl⟩:∃m,k=m+1:=⟨k-1,om⟩
   obtain⟨ad,x,rfl,_,hx',_,hx⟩:=HH.out.at_ (k:=m) om;have HX:=ac hx';clear hx';by_cases hx0:x=0
   .subst hx0;go_wp2;refine⟨⟨m,om,rfl,ac fun j hj=>?_⟩,sm⟩
    rcases aF m j with h|h
    .exact hz.out j h
    .obtain rfl:j=m:=om
     exact HX.out
   .have hb1:((x:Int)==0)=false:=by simp;omega
    go_wp2;go_ret;exact⟨⟨m+1,hk,rfl,HH.out.take hk,tV (fun _=>by rw[eT,HX.out];exact hx0) (by rw[HH.out.1];exact hk),(nT (m+1) xs hz.out).symm⟩,rfl⟩
def iZ(w wr:World)(zs:List Nat)(r:Nat):Prop:=Below w.heap.size w wr/\gK wr w.heap.size 136 (dT zs r)
def iZ.start(w:World)(r:Nat):iZ w (w.alloc (.cells (dT [] r) 136)) [] r:=⟨(aY _ _).alloc (ae _) _,gK.new _ _ _⟩
def iZ.drewN(h:iZ w wr zs r)(q:Nat):iZ w (wr.drewN q) zs r:=⟨⟨h.1.os,h.1.tape,h.1.output,h.1.size,h.1.block⟩,h.2⟩
def iZ.put(h:iZ w wr zs (r+1))(k x:Nat)(a:k=zs.length):iZ w (wr.setCell ⟨w.heap.size,k,none⟩ (.int .u32 x)) (zs++[x]) r:=by
 subst a;refine⟨h.1.setCell (ae _) _,?_⟩;have:=h.2.set_ zs.length (.int .u32 x)
 rwa [Bx]at this
def iZ.old(h:iZ w wr zs r)(a:k<zs.length+r):∃u,wr.cell? ⟨w.heap.size,k,none⟩=some u/\wr.frozen? ⟨w.heap.size,k,none⟩=false :=
 ⟨_,(h.2.cell k).trans (mJ zs r k a),h.2.frozen k⟩
def Rl(xs ys zs:List Nat)(k car:Nat):Prop:=zs.length=k/\nH zs/\aZ zs+car*4294967296^k=aZ (xs.take k)+aZ (ys.take k)
def LP(A B:Option Addr)(n m c d L:Nat)(xs ys:List Nat)(w:World)(hmn:m<=n)(hn:n<=536870912)(hL:L<=w.heap.size)(hx:cI w L A n xs)(hy:cI w L B m ys) :
  Calls ai 138 #[.slice A n c,.slice B m d] w (qH w (aZ xs+aZ ys)):=by
 have hmk:=DA (n+1) om;rw[show((n+1:Nat):Int)=(n:Int)+1 from by omega]at hmk
 have hlt:¬(n<m):=om
 have HX:=ac hx;clear hx;have HY:=ac hy;clear hy
 go_enter func138,ntmps138
 go_wp2;clear hmk
 go_loopw [6,22] (fun cv iv wr=>∃(k car:Nat) (zs:List Nat),k<=m/\iv=.int .i64 k/\cv=.int .u64 car/\car<=1/\Hid (iZ w wr zs (n+1-k))/\Hid (Rl xs ys zs k car)) (fun _ iv _=>m-(intOf iv).toNat)
 case atStart=>exact⟨0,0,[],om,rfl,rfl,om,ac (iZ.start w (n+1)),ac ⟨rfl,by simp[nH],by simp[aZ]⟩⟩
 case round =>
  obtain⟨k,car,zs,hk,rfl,rfl,hcar,HF,HS⟩:=hrel;by_cases hkm:k<m
  .obtain⟨ad,x,rfl,hab,hxx,hx4,h1⟩:=(HX.out.below HF.out.1 hL).at_ (k:=k) om;obtain⟨bd,y,rfl,hbb,hyy,hy4,h2⟩:=(HY.out.below HF.out.1 hL).at_ (k:=k) om;obtain⟨u,hu,hf⟩:=HF.out.old (k:=k) (by have:=HS.out.1;omega)
   have HXX:=ac hxx;clear hxx;have HYY:=ac hyy;clear hyy;have hkn:(k:Int)<n:=om
   have hkm':(k:Int)<m:=om
   have hk0:(0:Int)<=k:=om
   go_wp2
   go_quiet (fail)
   go_wp2
   go_roundw
   case rel =>
    exact⟨k+1,(car+(x+y))/4294967296,zs++[(car+(x+y))%4294967296],om,by go_num,by go_num,om,
     ac (by
      have h3:n+1-k=(n+1-(k+1))+1:=om
      have h4:=HF.out;rw[h3]at h4;have h5:=(h4.drewN nq).put k ((car+(x+y))%4294967296) HS.out.1.symm;exact h5),
     ac (by
      obtain⟨s1,s2,s3⟩:=HS.out;refine⟨by simp[s1],s2.snoc om,?_⟩
      rw[iD,s1,eD _ _ (by rw[HX.out.1];omega),eD _ _ (by rw[HY.out.1];omega),HXX.out,HYY.out,cf]
      exact rM s3)⟩
   case measure=>simp[intOf];omega
  .obtain rfl:k=m:=om
   go_wp2
   go_loopw [6,51] (fun cv iv wr=>∃(i car:Nat) (zs:List Nat),i<=n-k/\iv=.int .i64 i/\cv=.int .u64 car/\car<=1/\Hid (iZ w wr zs (n+1-(k+i)))/\Hid (Rl xs ys zs (k+i) car)) (fun _ iv _=>n-k-(intOf iv).toNat)
   case atStart=>exact⟨0,car,zs,om,rfl,rfl,hcar,HF,HS⟩
   case round =>
    clear HF HS hcar;obtain⟨i,car,zs,hi,rfl,rfl,hcar,HF,HS⟩:=hrel;by_cases hin:i<n-k
    .obtain⟨ad,x,rfl,hab,hxx,hx4,h1⟩:=(HX.out.below HF.out.1 hL).at_ (k:=k+i) om;obtain⟨u,hu,hf⟩:=HF.out.old (k:=k+i) (by have:=HS.out.1;omega)
     have HXX:=ac hxx;clear hxx;have hkn:(k:Int)+i<n:=om
     have hkn1:(k:Int)+i<n+1:=om
     have hk0:(0:Int)<=(k:Int)+i:=om
     have hti:((k:Int)+i).toNat=k+i:=om
     have hlt2:(i:Int)<(n:Int)-k:=om
     go_wp2
     go_roundw
     case rel =>
      exact⟨i+1,(car+x)/4294967296,zs++[(car+x)%4294967296],om,by go_num,by go_num,om,
       ac (by
        have h3:n+1-(k+i)=(n+1-(k+(i+1)))+1:=om
        have h4:=HF.out;rw[h3]at h4;have h5:=h4.put (k+i) ((car+x)%4294967296) HS.out.1.symm;exact h5),
       ac (by
        obtain⟨s1,s2,s3⟩:=HS.out;refine⟨by simp[s1];omega,s2.snoc om,?_⟩
        have hyt:∀r,k<=r->ys.take r=ys:=fun r hr=>bV (by rw[HY.out.1];exact hr)
        rw[hyt _ om]at s3 ⊢;rw[iD,s1,show k+(i+1)=k+i+1 from by omega,eD _ _ (by rw[HX.out.1];omega),HXX.out,cf]
        have:=rM (p:=4294967296^(k+i)) (x:=x) (y:=0) s3;simpa using this)⟩
     case measure=>simp[intOf];omega
    .obtain rfl:i=n-k:=om
     have hkn:k+(n-k)=n:=om
     obtain⟨u,hu,hf⟩:=HF.out.old (k:=n) (by have:=HS.out.1;omega)
     have hge:¬(((n-k:Nat):Int)<(n:Int)-k):=om
     go_wp2_with fail
     have h4:=HF.out;rw[show n+1-(k+(n-k))=0+1 from by omega]at h4
     have hl:zs.length=n:=by rw[HS.out.1,hkn]
     have h5:=h4.put n car hl.symm;have hlim:nH (zs++[car]):=HS.out.2.1.snoc om;have hU:=cI.ofBlk h5.2 hlim h5.2.lt rfl;rw[show(zs++[car]).length=n+1 from by simp[hl]]at hU
     have hB5:=h5.1;have hv:aZ (zs++[car])=aZ xs+aZ ys:=by
      obtain⟨s1,s2,s3⟩:=HS.out;rw[iD,hl,aA];rw[hkn,bV (by rw[HX.out.1];exact ae _),bV (by rw[HY.out.1];exact hmn)]at s3
      exact s3
     clear h4 h5 HF HS hu hf;have HU:=ac hU;clear hU;have HV:=ac hv;clear hv;have HB:=ac hB5;clear hB5;refine(lc _ _ _ _ _ _ (ae _) om HU.out).mono ?_;rintro e w' ⟨⟨r,hr,rfl,hU2,hT,hv2⟩,rfl⟩;have HU2:=ac hU2;clear hU2;have HV2:=ac hv2;clear hv2;go_wp2;go_ret;exact⟨_,_,_,_,rfl,hr,HU2.out,hT,HV2.out.trans HV.out,HB.out⟩
def LO(A B:Option Addr)(n m c d L:Nat)(xs ys:List Nat)(w:World)(hmn:m<n)(hn:n<=536870912)(hL:L<=w.heap.size)(hx:cI w L A n xs)(hy:cI w L B m ys) :
  Calls ai 138 #[.slice B m d,.slice A n c] w (qH w (aZ ys+aZ xs)):=by
 have hmk:=DA (n+1) om;rw[show((n+1:Nat):Int)=(n:Int)+1 from by omega]at hmk
 have hlt:m<n:=hmn;have HX:=ac hx;clear hx;have HY:=ac hy;clear hy
 go_enter func138,ntmps138
 go_wp2;clear hmk
 go_loopw [6,22] (fun cv iv wr=>∃(k car:Nat) (zs:List Nat),k<=m/\iv=.int .i64 k/\cv=.int .u64 car/\car<=1/\Hid (iZ w wr zs (n+1-k))/\Hid (Rl xs ys zs k car)) (fun _ iv _=>m-(intOf iv).toNat)
 case atStart=>exact⟨0,0,[],om,rfl,rfl,om,ac (iZ.start w (n+1)),ac ⟨rfl,by simp[nH],by simp[aZ]⟩⟩
 case round =>
  obtain⟨k,car,zs,hk,rfl,rfl,hcar,HF,HS⟩:=hrel;by_cases hkm:k<m
  .obtain⟨ad,x,rfl,hab,hxx,hx4,h1⟩:=(HX.out.below HF.out.1 hL).at_ (k:=k) om;obtain⟨bd,y,rfl,hbb,hyy,hy4,h2⟩:=(HY.out.below HF.out.1 hL).at_ (k:=k) om;obtain⟨u,hu,hf⟩:=HF.out.old (k:=k) (by have:=HS.out.1;omega)
   have HXX:=ac hxx;clear hxx;have HYY:=ac hyy;clear hyy;have hkn:(k:Int)<n:=om
   have hkm':(k:Int)<m:=om
   have hk0:(0:Int)<=k:=om
   go_wp2
   go_quiet (fail)
   go_wp2
   go_roundw
   case rel =>
    exact⟨k+1,(car+(x+y))/4294967296,zs++[(car+(x+y))%4294967296],om,by go_num,by go_num,om,
     ac (by
      have h3:n+1-k=(n+1-(k+1))+1:=om
      have h4:=HF.out;rw[h3]at h4;have h5:=(h4.drewN nq).put k ((car+(x+y))%4294967296) HS.out.1.symm;exact h5),
     ac (by
      obtain⟨s1,s2,s3⟩:=HS.out;refine⟨by simp[s1],s2.snoc om,?_⟩
      rw[iD,s1,eD _ _ (by rw[HX.out.1];omega),eD _ _ (by rw[HY.out.1];omega),HXX.out,HYY.out,cf]
      exact rM s3)⟩
   case measure=>simp[intOf];omega
  .obtain rfl:k=m:=om
   go_wp2
   go_loopw [6,51] (fun cv iv wr=>∃(i car:Nat) (zs:List Nat),i<=n-k/\iv=.int .i64 i/\cv=.int .u64 car/\car<=1/\Hid (iZ w wr zs (n+1-(k+i)))/\Hid (Rl xs ys zs (k+i) car)) (fun _ iv _=>n-k-(intOf iv).toNat)
   case atStart=>exact⟨0,car,zs,om,rfl,rfl,hcar,HF,HS⟩
   case round =>
    clear HF HS hcar;obtain⟨i,car,zs,hi,rfl,rfl,hcar,HF,HS⟩:=hrel;by_cases hin:i<n-k
    .obtain⟨ad,x,rfl,hab,hxx,hx4,h1⟩:=(HX.out.below HF.out.1 hL).at_ (k:=k+i) om;obtain⟨u,hu,hf⟩:=HF.out.old (k:=k+i) (by have:=HS.out.1;omega)
     have HXX:=ac hxx;clear hxx;have hkn:(k:Int)+i<n:=om
     have hkn1:(k:Int)+i<n+1:=om
     have hk0:(0:Int)<=(k:Int)+i:=om
     have hti:((k:Int)+i).toNat=k+i:=om
     have hlt2:(i:Int)<(n:Int)-k:=om
     go_wp2
     go_roundw
     case rel =>
      exact⟨i+1,(car+x)/4294967296,zs++[(car+x)%4294967296],om,by go_num,by go_num,om,
       ac (by
        have h3:n+1-(k+i)=(n+1-(k+(i+1)))+1:=om
        have h4:=HF.out;rw[h3]at h4;have h5:=h4.put (k+i) ((car+x)%4294967296) HS.out.1.symm;exact h5),
       ac (by
        obtain⟨s1,s2,s3⟩:=HS.out;refine⟨by simp[s1];omega,s2.snoc om,?_⟩
        have hyt:∀r,k<=r->ys.take r=ys:=fun r hr=>bV (by rw[HY.out.1];exact hr)
        rw[hyt _ om]at s3 ⊢;rw[iD,s1,show k+(i+1)=k+i+1 from by omega,eD _ _ (by rw[HX.out.1];omega),HXX.out,cf]
        have:=rM (p:=4294967296^(k+i)) (x:=x) (y:=0) s3;simpa using this)⟩
     case measure=>simp[intOf];omega
    .obtain rfl:i=n-k:=om
     have hkn:k+(n-k)=n:=om
     obtain⟨u,hu,hf⟩:=HF.out.old (k:=n) (by have:=HS.out.1;omega)
     have hge:¬(((n-k:Nat):Int)<(n:Int)-k):=om
     go_wp2_with fail
     have h4:=HF.out;rw[show n+1-(k+(n-k))=0+1 from by omega]at h4
     have hl:zs.length=n:=by rw[HS.out.1,hkn]
     have h5:=h4.put n car hl.symm;have hlim:nH (zs++[car]):=HS.out.2.1.snoc om;have hU:=cI.ofBlk h5.2 hlim h5.2.lt rfl;rw[show(zs++[car]).length=n+1 from by simp[hl]]at hU
     have hB5:=h5.1;have hv:aZ (zs++[car])=aZ xs+aZ ys:=by
      obtain⟨s1,s2,s3⟩:=HS.out;rw[iD,hl,aA];rw[hkn,bV (by rw[HX.out.1];exact ae _),bV (by rw[HY.out.1];exact dp hmn)]at s3
      exact s3
     clear h4 h5 HF HS hu hf;have HU:=ac hU;clear hU;have HV:=ac hv;clear hv;have HB:=ac hB5;clear hB5;refine(lc _ _ _ _ _ _ (ae _) om HU.out).mono ?_;rintro e w' ⟨⟨r,hr,rfl,hU2,hT,hv2⟩,rfl⟩;have HU2:=ac hU2;clear hU2;have HV2:=ac hv2;clear hv2;go_wp2;go_ret;exact⟨_,_,_,_,rfl,hr,HU2.out,hT,(HV2.out.trans HV.out).trans (jY _ _),HB.out⟩
def AM(A B:Option Addr)(n m c d L:Nat)(xs ys:List Nat)(w:World)(f:n<=536870912)(g:m<=536870912)(a:L<=w.heap.size)(b:cI w L A n xs)(e:cI w L B m ys) :
  Calls ai 138 #[.slice A n c,.slice B m d] w (qH w (aZ xs+aZ ys)):=by
 rcases aF n m with h|h
 .exact LO B A m n d c L ys xs w h g a e b
 .exact LP A B n m c d L xs ys w h f a b e

def sf(h:i<xs.length):xs.drop i=xs.getD i 0::xs.drop (i+1):=by
 rw[sw h];simp[cS,bE h]
def ir(A B:Option Addr)(n m c d L:Nat)(xs ys:List Nat)(w:World)(hn:n<=9223372036854775807)(hm:m<=9223372036854775807)(hx:cI w L A n xs)(hy:cI w L B m ys)(tx:pk xs)(ty:pk ys) :
  Calls ai 195 #[.slice A n c,.slice B m d] w fun e w'=>e=.returned (.int .i64 (lB (aZ xs) (aZ ys)))/\eh w w':=by
 have HX:=ac hx;clear hx;have HY:=ac hy;clear hy;have TX:=ac tx;clear tx;have TY:=ac ty;clear ty;by_cases h1:n<m
 .have hr:=ac (lW (qh HX.out.2.1 TY.out (by rw[HX.out.1,HY.out.1];exact h1)))
  go_enter func195,VH
  go_wp2;go_ret;exact⟨by rw[hr.out];rfl,eh.refl _⟩
 by_cases h2:m<n
 .have hr:=ac (kN (qh HY.out.2.1 TX.out (by rw[HX.out.1,HY.out.1];exact h2)))
  go_enter func195,VH
  go_wp2;go_ret;exact⟨by rw[hr.out];rfl,eh.refl _⟩
 obtain rfl:n=m:=om
 go_enter func195,VH
 go_wp2
 go_loopw [5] (fun iv wr=>∃(k:Nat),k<=n/\iv=.int .i64 ((k:Int)-1)/\Hid (eh w wr)/\Hid (xs.drop k=ys.drop k)) (fun iv _=>(intOf iv+1).toNat)
 case atStart=>exact⟨n,om,rfl,ac (eh.refl w),ac (by rw[kT (by rw[HX.out.1];omega),kT (by rw[HY.out.1];omega)])⟩
 case round =>
  obtain⟨k,hk,rfl,HQ,HD⟩:=hrel;by_cases h0:k=0
  .subst h0;have hr:=ac (lX (show aZ xs=aZ ys by have:=HD.out;simp only[yW]at this;rw[this]))
   go_wp2;go_ret;exact⟨by rw[hr.out];rfl,HQ.out⟩
  .obtain⟨i,rfl⟩:∃i,k=i+1:=⟨k-1,om⟩
   obtain⟨ad,x,rfl,_,hxx,hx4,h3⟩:=(HX.out.still HQ.out).at_ (k:=i) om;obtain⟨bd,y,rfl,_,hyy,hy4,h4⟩:=(HY.out.still HQ.out).at_ (k:=i) om;have HXX:=ac hxx;clear hxx;have HYY:=ac hyy;clear hyy;have e1:((i+1:Nat):Int)-1=(i:Int):=om
   rw[e1];clear e1;have hi0:(0:Int)<=i:=om
   have hin:(i:Int)<n:=om
   rcases dS x y with hlt|heq|hgt
   .have hr:=ac (lW (rW HX.out.2.1 (i:=i) (by rw[HX.out.1];omega) (by rw[HX.out.1,HY.out.1]) HD.out (by rw[HXX.out,HYY.out];exact hlt)))
    go_wp2
    go_quiet (fail)
    go_wp2;go_ret;exact⟨by rw[hr.out];rfl,by repeat' (first|exact HQ.out|apply eh.more)⟩
   .subst heq;go_wp2
    go_quiet (fail)
    go_wp2
    go_quiet (fail)
    go_wp2
    go_roundw
    case rel=>exact⟨i,om,rfl,ac (by repeat' (first|exact HQ.out|apply eh.more)),ac (by rw[sf (by rw[HX.out.1];omega),sf (xs:=ys) (by rw[HY.out.1];omega),HXX.out,HYY.out,HD.out])⟩
    case measure=>simp[intOf]
   .have hr:=ac (kN (rW HY.out.2.1 (i:=i) (by rw[HY.out.1];omega) (by rw[HX.out.1,HY.out.1]) HD.out.symm (by rw[HXX.out,HYY.out];exact hgt)))
    go_wp2
    go_quiet (fail)
    go_wp2
    go_quiet (fail)
    go_wp2;go_ret;exact⟨by rw[hr.out];rfl,by repeat' (first|exact HQ.out|apply eh.more)⟩

def Ho(c:a<4294967296):a ||| x*4294967296=a+x*4294967296:=by
 have h:=kP (i:=32) (b:=a) (by simpa using c) x
 rw[tO]at h;rw[UU,<-h,jY]
def zw(b:a<4294967296)(c:x<4294967296):bits .or .u64 (a:Int) ((x:Int)*4294967296)=((a+x*4294967296:Nat):Int):=by
 have h:=yi a (x*4294967296) om om;rw[Ho b]at h;rw[<-h];rfl
def mP(A:Option Addr)(n c L:Nat)(xs:List Nat)(w:World)(hn:n<=2)(hx:cI w L A n xs) :
  Calls ai 141 #[.slice A n c] w fun e w'=>e=.returned (.int .u64 (aZ xs))/\w=w':=by
 have HX:=ac hx;clear hx
 go_enter func141,ntmps141
 go_wp2
 go_loop [3,8] (fun v i=>∃k:Nat,k<=n/\i=.int .i64 k/\v=.int .u64 (aZ (xs.take k))) (fun _ i=>n-(intOf i).toNat)
 case atStart=>exact⟨0,jW _,rfl,by simp[aZ]⟩
 case round =>
  obtain⟨k,hk,rfl,rfl⟩:=hrel;by_cases hkn:k<n
  .obtain⟨ad,x,rfl,_,hxx,hx4,h1⟩:=HX.out.at_ hkn;have HXX:=ac hxx;clear hxx;have hv:=jD (HX.out.2.1.take k);have hk2:k=0∨k=1:=om
   rcases hk2 with rfl|rfl
   .simp only[Addr.add,ah]at h1;go_wp2;refine⟨⟨1,om,rfl,?_⟩,by simp[intOf];omega⟩
    have hx1:xs.take 1=[x]:=by
     rw[n9 (by rw[HX.out.1];omega)]
     have:=HXX.out;simp only[cS,bE (show 0<xs.length by rw[HX.out.1];omega),gA]at this
     simp[this]
    rw[hx1];have h5:=yi 0 x om om;simp only[Nat.zero_or]at h5;simpa [aZ]using h5
   .simp only[Addr.add,Vy,aM]at h1;go_wp2;refine⟨⟨2,om,rfl,?_⟩,by simp[intOf];omega⟩
    rw[eD xs 1 (by rw[HX.out.1];omega),HXX.out]
    simp only[gV]at hv;rw[zw (dK hv (by
     rw[HX.out.1,iy om];omega)) hx4,UT,aA x]
  .obtain rfl:k=n:=om
   go_wp2;go_ret;exact⟨by rw[bV (by rw[HX.out.1];exact ae _)];rfl,rfl⟩
def kM(v:Nat)(w:World)(hv:v<18446744073709551616) :
  Calls ai 135 #[.int .u64 v] w (qH w v):=by
 go_enter func135,ntmps135
 go_wp2_with fail
 have hl:nH [v%4294967296,v/4294967296]:=by
  intro x hx;simp only[ed,aR,jz]at hx;rcases hx with rfl|rfl<;>omega
 have hb:gK (w.alloc (Obj.cells #[dL IntKind.u32 ((v:Int)%4294967296),dL IntKind.u32 ((v:Int)/4294967296)] 136)) w.heap.size 136 (dT [v%4294967296,v/4294967296] 0):=by
  have:=gK.new w 136 #[dL IntKind.u32 ((v:Int)%4294967296),dL IntKind.u32 ((v:Int)/4294967296)];simpa [dT]using this
 have hU:=cI.ofBlk hb hl hb.lt rfl;have HB:=ac ((aY w.heap.size w).alloc (ae _) (Obj.cells #[dL IntKind.u32 ((v:Int)%4294967296),dL IntKind.u32 ((v:Int)/4294967296)] 136));clear hb;have HU:=ac hU;clear hU;refine(lc _ _ _ _ _ _ (ae _) sm HU.out).mono ?_
 rintro e w' ⟨⟨r,hr,rfl,hU2,hT,hv2⟩,rfl⟩;have HU2:=ac hU2;clear hU2;have HV2:=ac hv2;clear hv2;go_wp2;go_ret;exact⟨_,_,_,_,rfl,hr,HU2.out,hT,HV2.out.trans (by simp[aZ];omega),HB.out⟩

def Diff1(xs ys zs:List Nat)(k bo:Nat):Prop:=zs.length=k/\nH zs/\aZ zs+aZ (ys.take k)=aZ (xs.take k)+bo*4294967296^k
def B5(x bo y:Nat)(a:x<4294967296)(b:bo<=1)(c:y<4294967296) :
  IntKind.u64.wrap (IntKind.u64.wrap ((x:Int)-bo)-y)=((x+18446744073709551616-bo-y)%18446744073709551616:Nat):=by
 rw[ci,ci];omega
def B6(x bo:Nat)(a:x<4294967296)(b:bo<=1) :
  IntKind.u64.wrap ((x:Int)-bo)=((x+18446744073709551616-bo-0)%18446744073709551616:Nat):=by
 rw[ci];omega
def H6{t:Nat}:((t%18446744073709551616:Nat):Int)%4294967296=((t%4294967296:Nat):Int):=om
def DH{t:Nat}:((t%18446744073709551616:Nat):Int)/9223372036854775808=((t%18446744073709551616/9223372036854775808:Nat):Int):=om
def qj(A B:Option Addr)(n m c d L:Nat)(xs ys:List Nat)(w:World)(hmn:m<=n)(hn:n<=536870912)(hL:L<=w.heap.size)(hx:cI w L A n xs)(hy:cI w L B m ys)(hle:aZ ys<=aZ xs) :
  Calls ai 139 #[.slice A n c,.slice B m d] w (qH w (aZ xs-aZ ys)):=by
 have hmk:=DA n om;have HLE:=ac hle;clear hle;have HX:=ac hx;clear hx;have HY:=ac hy;clear hy
 go_enter func139,ntmps139
 go_wp2;clear hmk
 go_loopw [6,14] (fun cv iv wr=>∃(k bo:Nat) (zs:List Nat),k<=n/\iv=.int .i64 k/\cv=.int .u64 bo/\bo<=1/\Hid (iZ w wr zs (n-k))/\Hid (Diff1 xs ys zs k bo)) (fun _ iv _=>n-(intOf iv).toNat)
 case atStart=>exact⟨0,0,[],om,rfl,rfl,om,ac (iZ.start w n),ac ⟨rfl,by simp[nH],by simp[aZ]⟩⟩
 case round =>
  obtain⟨k,bo,zs,hk,rfl,rfl,hbo,HF,HS⟩:=hrel;by_cases hkn:k<n
  .obtain⟨ad,x,rfl,hab,hxx,hx4,h1⟩:=(HX.out.below HF.out.1 hL).at_ (k:=k) om;obtain⟨u,hu,hf⟩:=HF.out.old (k:=k) (by have:=HS.out.1;omega)
   have HXX:=ac hxx;clear hxx;have hkn':(k:Int)<n:=om
   have hk0:(0:Int)<=k:=om
   by_cases hkm:k<m
   .obtain⟨bd,y,rfl,hbb,hyy,hy4,h2⟩:=(HY.out.below HF.out.1 hL).at_ (k:=k) om;have HYY:=ac hyy;clear hyy;have hkm':(k:Int)<m:=om
    go_wp2
    go_roundw
    case rel =>
     obtain⟨s1,s2,s3⟩:=HS.out;obtain⟨z,b,hz,hb,z4,b1,hs⟩:=Fg s3 hbo hx4 hy4;refine⟨k+1,b,zs++[z],om,by go_num,?_,b1,ac ?_,ac ⟨by simp[s1],s2.snoc z4,?_⟩⟩
     .rw[B5 x bo y hx4 hbo hy4,DH,hb]
     .have h3:n-k=(n-(k+1))+1:=om
      have h4:=HF.out;rw[h3]at h4;rw[B5 x bo y hx4 hbo hy4,H6,<-hz];exact h4.put k z s1.symm
     .rw[iD,s1,eD xs _ (by rw[HX.out.1];omega),eD ys _ (by rw[HY.out.1];omega),HXX.out,HYY.out,cf]
      exact hs
    case measure=>simp[intOf];omega
   .go_wp2
    go_roundw
    case rel =>
     obtain⟨s1,s2,s3⟩:=HS.out;obtain⟨z,b,hz,hb,z4,b1,hs⟩:=Fg (y:=0) s3 hbo hx4 om;refine⟨k+1,b,zs++[z],om,by go_num,?_,b1,ac ?_,ac ⟨by simp[s1],s2.snoc z4,?_⟩⟩
     .rw[B6 x bo hx4 hbo,DH,hb]
     .have h3:n-k=(n-(k+1))+1:=om
      have h4:=HF.out;rw[h3]at h4;rw[B6 x bo hx4 hbo,H6,<-hz];exact h4.put k z s1.symm
     .have hyt:∀r,m<=r->ys.take r=ys:=fun r hr=>bV (by rw[HY.out.1];exact hr)
      rw[hyt _ om]at hs ⊢;rw[iD,s1,eD _ _ (by rw[HX.out.1];omega),HXX.out,cf]
      simpa using hs
    case measure=>simp[intOf];omega
  .obtain rfl:k=n:=om
   go_wp2_with fail
   obtain⟨s1,s2,s3⟩:=HS.out;have h5:=HF.out;rw[cq]at h5;have hU:=cI.ofBlk h5.2 s2 h5.2.lt rfl;rw[s1]at hU;have hv:aZ zs=aZ xs-aZ ys:=by
    rw[bV (l:=xs) (by rw[HX.out.1];exact ae _),bV (l:=ys) (by rw[HY.out.1];exact hmn)]at s3
    have h6:=HLE.out;have h7:=jD s2;rw[s1]at h7;rcases bn bo with h0|h0
    .subst h0;omega
    .obtain rfl:bo=1:=om
     omega
   have HB:=ac h5.1;clear h5 HF HS s1 s2 s3;have HU:=ac hU;clear hU;have HV:=ac hv;clear hv;refine(lc _ _ _ _ _ _ (ae _) om HU.out).mono ?_;rintro e w' ⟨⟨r,hr,rfl,hU2,hT,hv2⟩,rfl⟩;have HU2:=ac hU2;clear hU2;have HV2:=ac hv2;clear hv2;go_wp2;go_ret;exact⟨_,_,_,_,rfl,hr,HU2.out,hT,HV2.out.trans HV.out,HB.out⟩

def eV(w:World)(B:Nat)(v:Value)(z:Int):Prop :=
 ∃(neg:Bool) (A:Option Addr) (n c:Nat) (xs:List Nat),v=.agg #[.bool neg,.slice A n c]/\n<=c/\cI w B A n xs/\pk xs/\z=sg neg (aZ xs)
def eV.below(h:eV w B v z)(a:Below B' w w')(b:B<=B'):eV w' B v z:=by
 obtain⟨neg,A,n,c,xs,d,e,f,g,i⟩:=h;exact⟨neg,A,n,c,xs,d,e,f.below a b,g,i⟩
def eV.more(h:eV w B v z)(a:B<=B'):eV w B' v z:=by
 obtain⟨neg,A,n,c,xs,b,d,e,f,g⟩:=h;exact⟨neg,A,n,c,xs,b,d,e.more a,f,g⟩
def Hu:Value->Prop
 | .int _ _=>False
 | _=>True
def cI.put{cs:Array Value}(h:cI w B A n xs)(c:gK w g t cs)(d:∀(j:Nat) (x:Value),cs[j]? = some x->Hu x) :
  cI (w.setCell ⟨g,i,none⟩ u) B A n xs :=
 ⟨h.1,h.2.1,fun f=>by
  obtain⟨ad,e,k,l⟩:=h.2.2 f;refine⟨ad,e,k,fun j m=>?_⟩;have a:=l j m;have b:ad.block≠g:=by
   intro o;have p:w.cell? (ad.add j)=(if (ad.add j).spot.isSome then none else cs[(ad.add j).off]?):=by
    unfold World.cell?;rw[n0,o,show w.heap[g]? = _ from c]
   rw[p]at a;split at a
   .cases a
   .exact d _ _ a
  rw[<-a];exact BH (Pb w _ u _ (by rw[n0];exact b))⟩
def eV.put{cs:Array Value}(h:eV w B v z)(a:gK w g t cs)(b:∀(j:Nat) (x:Value),cs[j]? = some x->Hu x) :
  eV (w.setCell ⟨g,i,none⟩ u) B v z:=by
 obtain⟨neg,A,n,c,xs,d,e,f,k,l⟩:=h;exact⟨neg,A,n,c,xs,d,e,f.put a b,k,l⟩
def mF(a:Bool)(A:Option Addr)(n c:Nat):∀(j:Nat) (x:Value),(#[au a,ao A n c]:Array Value)[j]? = some x->Hu x:=by
 intro j x h
 match j with
 | 0=>simp at h;subst h;trivial
 | 1=>simp at h;subst h;trivial
 | j+2=>simp at h
def eV.result{neg a:Bool}(h:eV w B (.agg #[.bool neg,.slice A n c]) z)(b:gK w g 50 #[.bool a,.slice D k d]) :
  eV ((w.setCell ⟨g,0,none⟩ (.bool neg)).setCell ⟨g,1,none⟩ (.slice A n c)) B (.agg #[.bool neg,.slice A n c]) z :=
 (h.put b (mF a D k d)).put (b.set_ 0 (.bool neg)) (by simpa using mF neg D k d)
def dU(w:World)(z:Int)(e:Ending)(w':World):Prop:=∃v,e=.returned v/\eV w' w'.heap.size v z/\Below w.heap.size w w'
def dU.cell{w2:World}{neg a:Bool}{z':Int}(f:eV w2 w2.heap.size (.agg #[.bool neg,.slice A n c]) z)(b:gK w2 g 50 #[.bool a,.slice D k d])
  (h:Below w.heap.size w w2) (e:w.heap.size<=g) (i:z=z') :
  dU w z' (.returned (.agg #[.bool neg,.slice A n c])) ((w2.setCell ⟨g,0,none⟩ (.bool neg)).setCell ⟨g,1,none⟩ (.slice A n c)) :=
 ⟨_,rfl,by subst i;simpa using eV.result f b,(h.setCell (by exact e) _).setCell (by exact e) _⟩
def xF(s:Bool)(a b:Nat):sg s (a+b)=sg s a+sg s b:=by cases s<;>simp[sg];omega
def wd{s1 s2:Bool}(h:s1≠s2){a b:Nat}(c:b<=a):sg s1 (a-b)=sg s1 a+sg s2 b:=by
 cases s1<;>cases s2<;>simp[sg]at*<;> omega
def Ch{s1 s2:Bool}(h:s1≠s2){a b:Nat}(c:a<=b):sg s2 (b-a)=sg s1 a+sg s2 b:=by
 cases s1<;>cases s2<;>simp[sg]at*<;> omega
def aJ(h:cI w B A n xs)(a:pk xs):n=nl (aZ xs):=by rw[<-h.1];exact DE h.2.1 a
def ic(neg:Bool)(A:Option Addr)(n c B:Nat)(xs:List Nat)(w:World)(hn:n<=c)(hm:n<=9223372036854775807)(hB:B<=w.heap.size)(h:cI w B A n xs)(ht:pk xs) :
  Calls ai 134 #[.bool neg,.slice A n c] w (dU w (sg neg (aZ xs))):=by
 have HX:=ac h;clear h;have HT:=ac ht;clear ht;by_cases h0:n=0
 .subst h0
  go_enter func134,ntmps134
  go_wp2;have hx0:xs=[]:=ny.1 HX.out.1;exact cM (v:=.agg #[.bool false,.slice none 0 0]) (by simp[results,results134,go_sem]) rfl
   ⟨_,rfl,⟨false,none,0,0,[],rfl,ae _,⟨rfl,by simp[nH],fun h=>absurd h om⟩,by intro x hx;simp at hx,by rw[hx0];simp[aZ,sg]⟩,(aY _ _).alloc (ae _) _⟩
 .have h1:((n:Int)==0)=false:=by simp;omega
  go_enter func134,ntmps134
  go_wp2;have hb:=(aY w.heap.size w).alloc (ae _) (Obj.cells #[au neg,ao A n c] 50);exact cM (v:=.agg #[.bool neg,.slice A n c]) (by simp[results,results134,go_sem]) rfl
   ⟨_,rfl,⟨neg,A,n,c,xs,rfl,hn,(HX.out.below hb hB).more (by have:=hb.size;omega),HT.out,rfl⟩,hb⟩
def sW(s1 s2:Bool)(A B:Option Addr)(n m c d L:Nat)(xs ys:List Nat)(w:World)(hn:n<=536870912)(hm:m<=536870912)(hL:L<=w.heap.size)
  (hx:cI w L A n xs) (hy:cI w L B m ys) (tx:pk xs) (ty:pk ys) :
  Calls ai 194 #[.bool s1,.slice A n c,.bool s2,.slice B m d] w (dU w (sg s1 (aZ xs)+sg s2 (aZ ys))):=by
 have HX:=ac hx;clear hx;have HY:=ac hy;clear hy;have HTX:=ac tx;clear tx;have HTY:=ac ty;clear ty;by_cases hs:s1=s2
 .subst hs;have hb:(s1==s1)=true:=by simp
  go_enter So,OD
  go_wp2_with fail
  have hb0:=(aY w.heap.size w).alloc (ae _) (Obj.cells #[au false,ao none 0 0] 50);refine(AM A B n m c d L xs ys _ hn hm (by simp;omega) (HX.out.below hb0 hL) (HY.out.below hb0 hL)).mono ?_
  rintro e w1 ⟨A1,k,c1,zs,rfl,hk,hU,hT,hv,hb1⟩;have hk2:k<=536870913:=by
   rw[<-hU.1,DE hU.2.1 hT,hv];have h1:=Nn (aZ xs) (aZ ys);rw[<-DE HX.out.2.1 HTX.out,<-DE HY.out.2.1 HTY.out,HX.out.1,HY.out.1]at h1;omega
  have HU:=ac hU;clear hU;have HV:=ac hv;clear hv;have HT:=ac hT;clear hT;have HB1:=ac hb1;clear hb1;have HB0:=ac hb0;clear hb0
  go_wp2_with fail
  refine(ic s1 A1 k c1 w1.heap.size zs w1 hk om (ae _) HU.out HT.out).mono ?_;rintro e w2 ⟨v,rfl,hI,hb2⟩;obtain⟨neg,A2,n2,c2,zs2,rfl,hI2⟩:=hI;have hsz:w.heap.size+1<=w1.heap.size:=by have:=HB1.out.size;simpa using this
  have hblk:gK w2 w.heap.size 50 #[.bool false,.slice none 0 0]:=((gK.new w 50 _).below HB1.out sm).below hb2 om
  have hc0:=hblk.cell 0;have hc1:=hblk.cell 1;have hf0:=hblk.frozen 0;have hf1:=hblk.frozen 1;simp only[fN,c9,cn]at hc0 hc1;have HK:=ac hblk;clear hblk;have HI:=ac hI2;clear hI2;have HB2:=ac hb2;clear hb2;go_wp2;exact cM (v:=.agg #[.bool neg,.slice A2 n2 c2]) (by simp[results,Gm,go_sem,hc0,hc1]) rfl
   (dU.cell ⟨neg,A2,n2,c2,zs2,rfl,HI.out⟩ HK.out ((HB0.out.trans (HB1.out.mono sm)).trans (HB2.out.mono om)) (ae _) (by rw[HV.out,xF]))
 .have hb:(s1==s2)=false:=by simpa using hs
  rcases aF (aZ xs) (aZ ys)with hlt|hge
  .have hcm:=lW hlt
   go_enter So,OD
   go_wp2_with fail
   have hb0:=(aY w.heap.size w).alloc (ae _) (Obj.cells #[au false,ao none 0 0] 50);have hcall:=ir A B n m c d L xs ys (w.alloc (Obj.cells #[au false,ao none 0 0] 50)) om om (HX.out.below hb0 hL) (HY.out.below hb0 hL) HTX.out HTY.out;rw[hcm]at hcall;refine hcall.mono ?_;clear hcall hcm;rintro e w1 ⟨rfl,q,rfl⟩;have HB0:=ac (hb0.trans ((eh.refl _).more q |>.below _));clear hb0
   go_wp2_with fail
   refine(qj B A m n d c L ys xs _ (by have h1:=aJ HX.out HTX.out;have h2:=aJ HY.out HTY.out;have h3:=gk (dp hlt);omega) om (by simp;omega) (HY.out.below HB0.out hL) (HX.out.below HB0.out hL) (dp hlt)).mono ?_
   rintro e w1 ⟨A1,k,c1,zs,rfl,hk,hU,hT,hv,hb1⟩;have hk2:k<=536870913:=by
    rw[aJ hU hT,hv];have h1:=aJ HX.out HTX.out;have h2:=aJ HY.out HTY.out;have h3:nl (aZ xs-aZ ys)<=nl (aZ xs):=gk om;have h4:nl (aZ ys-aZ xs)<=nl (aZ ys):=gk om;omega
   have HU:=ac hU;clear hU;have HV:=ac hv;clear hv;have HT:=ac hT;clear hT;have HB1:=ac hb1;clear hb1
   go_wp2_with fail
   refine(ic s2 A1 k c1 w1.heap.size zs w1 hk om (ae _) HU.out HT.out).mono ?_;rintro e w2 ⟨v,rfl,hI,hb2⟩;obtain⟨neg,A2,n2,c2,zs2,rfl,hI2⟩:=hI;have hsz:w.heap.size+1<=w1.heap.size:=by have:=HB1.out.size;simpa using this
   have hblk:gK w2 w.heap.size 50 #[.bool false,.slice none 0 0]:=(gK.below (w:=(w.alloc (Obj.cells #[au false,ao none 0 0] 50)).drewN q) (gK.new w 50 _) HB1.out sm).below hb2 om
   have hc0:=hblk.cell 0;have hc1:=hblk.cell 1;have hf0:=hblk.frozen 0;have hf1:=hblk.frozen 1;simp only[fN,c9,cn]at hc0 hc1;have HK:=ac hblk;clear hblk;have HI:=ac hI2;clear hI2;have HB2:=ac hb2;clear hb2;go_wp2;exact cM (v:=.agg #[.bool neg,.slice A2 n2 c2]) (by simp[results,Gm,go_sem,hc0,hc1]) rfl
    (dU.cell ⟨neg,A2,n2,c2,zs2,rfl,HI.out⟩ HK.out ((HB0.out.trans (HB1.out.mono sm)).trans (HB2.out.mono om)) (ae _) (by rw[HV.out,Ch hs (dp hlt)]))
  .rcases aF (aZ ys) (aZ xs)with hgt|hle
   .have hcm:=kN hgt
    go_enter So,OD
    go_wp2_with fail
    have hb0:=(aY w.heap.size w).alloc (ae _) (Obj.cells #[au false,ao none 0 0] 50);have hcall:=ir A B n m c d L xs ys (w.alloc (Obj.cells #[au false,ao none 0 0] 50)) om om (HX.out.below hb0 hL) (HY.out.below hb0 hL) HTX.out HTY.out;rw[hcm]at hcall;refine hcall.mono ?_;clear hcall hcm;rintro e w1 ⟨rfl,q,rfl⟩;have HB0:=ac (hb0.trans ((eh.refl _).more q |>.below _));clear hb0
    go_wp2_with fail
    refine(qj A B n m c d L xs ys _ (by have h1:=aJ HX.out HTX.out;have h2:=aJ HY.out HTY.out;have h3:=gk (dp hgt);omega) om (by simp;omega) (HX.out.below HB0.out hL) (HY.out.below HB0.out hL) (dp hgt)).mono ?_
    rintro e w1 ⟨A1,k,c1,zs,rfl,hk,hU,hT,hv,hb1⟩;have hk2:k<=536870913:=by
     rw[aJ hU hT,hv];have h1:=aJ HX.out HTX.out;have h2:=aJ HY.out HTY.out;have h3:nl (aZ xs-aZ ys)<=nl (aZ xs):=gk om;have h4:nl (aZ ys-aZ xs)<=nl (aZ ys):=gk om;omega
    have HU:=ac hU;clear hU;have HV:=ac hv;clear hv;have HT:=ac hT;clear hT;have HB1:=ac hb1;clear hb1
    go_wp2_with fail
    refine(ic s1 A1 k c1 w1.heap.size zs w1 hk om (ae _) HU.out HT.out).mono ?_;rintro e w2 ⟨v,rfl,hI,hb2⟩;obtain⟨neg,A2,n2,c2,zs2,rfl,hI2⟩:=hI;have hsz:w.heap.size+1<=w1.heap.size:=by have:=HB1.out.size;simpa using this
    have hblk:gK w2 w.heap.size 50 #[.bool false,.slice none 0 0]:=(gK.below (w:=(w.alloc (Obj.cells #[au false,ao none 0 0] 50)).drewN q) (gK.new w 50 _) HB1.out sm).below hb2 om
    have hc0:=hblk.cell 0;have hc1:=hblk.cell 1;have hf0:=hblk.frozen 0;have hf1:=hblk.frozen 1;simp only[fN,c9,cn]at hc0 hc1;have HK:=ac hblk;clear hblk;have HI:=ac hI2;clear hI2;have HB2:=ac hb2;clear hb2;go_wp2;exact cM (v:=.agg #[.bool neg,.slice A2 n2 c2]) (by simp[results,Gm,go_sem,hc0,hc1]) rfl
     (dU.cell ⟨neg,A2,n2,c2,zs2,rfl,HI.out⟩ HK.out ((HB0.out.trans (HB1.out.mono sm)).trans (HB2.out.mono om)) (ae _) (by rw[HV.out,wd hs (dp hgt)]))
   .have heq:aZ xs=aZ ys:=Ki hle hge;have hcm:=lX heq
    go_enter So,OD
    go_wp2_with fail
    have hb0:=(aY w.heap.size w).alloc (ae _) (Obj.cells #[au false,ao none 0 0] 50);have hcall:=ir A B n m c d L xs ys (w.alloc (Obj.cells #[au false,ao none 0 0] 50)) om om (HX.out.below hb0 hL) (HY.out.below hb0 hL) HTX.out HTY.out;rw[hcm]at hcall;refine hcall.mono ?_;clear hcall hcm;rintro e w1 ⟨rfl,q,rfl⟩;have HB0:=ac (hb0.trans ((eh.refl _).more q |>.below _));clear hb0
    go_wp2_with fail
    refine(qj A B n m c d L xs ys _ (by have h1:=aJ HX.out HTX.out;have h2:=aJ HY.out HTY.out;have h3:=gk (qQ heq.symm);omega) om (by simp;omega) (HX.out.below HB0.out hL) (HY.out.below HB0.out hL) (qQ heq.symm)).mono ?_
    rintro e w1 ⟨A1,k,c1,zs,rfl,hk,hU,hT,hv,hb1⟩;have hk2:k<=536870913:=by
     rw[aJ hU hT,hv];have h1:=aJ HX.out HTX.out;have h2:=aJ HY.out HTY.out;have h3:nl (aZ xs-aZ ys)<=nl (aZ xs):=gk om;have h4:nl (aZ ys-aZ xs)<=nl (aZ ys):=gk om;omega
    have HU:=ac hU;clear hU;have HV:=ac hv;clear hv;have HT:=ac hT;clear hT;have HB1:=ac hb1;clear hb1
    go_wp2_with fail
    refine(ic s1 A1 k c1 w1.heap.size zs w1 hk om (ae _) HU.out HT.out).mono ?_;rintro e w2 ⟨v,rfl,hI,hb2⟩;obtain⟨neg,A2,n2,c2,zs2,rfl,hI2⟩:=hI;have hsz:w.heap.size+1<=w1.heap.size:=by have:=HB1.out.size;simpa using this
    have hblk:gK w2 w.heap.size 50 #[.bool false,.slice none 0 0]:=(gK.below (w:=(w.alloc (Obj.cells #[au false,ao none 0 0] 50)).drewN q) (gK.new w 50 _) HB1.out sm).below hb2 om
    have hc0:=hblk.cell 0;have hc1:=hblk.cell 1;have hf0:=hblk.frozen 0;have hf1:=hblk.frozen 1;simp only[fN,c9,cn]at hc0 hc1;have HK:=ac hblk;clear hblk;have HI:=ac hI2;clear hI2;have HB2:=ac hb2;clear hb2;go_wp2;exact cM (v:=.agg #[.bool neg,.slice A2 n2 c2]) (by simp[results,Gm,go_sem,hc0,hc1]) rfl
     (dU.cell ⟨neg,A2,n2,c2,zs2,rfl,HI.out⟩ HK.out ((HB0.out.trans (HB1.out.mono sm)).trans (HB2.out.mono om)) (ae _) (by rw[HV.out,wd hs (qQ heq.symm)]))

def gE(A:Option Addr)(n c B:Nat)(xs:List Nat)(w:World)(b:n<=c)(d:n<=9223372036854775807)(h:cI w B A n xs)(f:pk xs) :
  Calls ai 136 #[.slice A n c] w fun e w'=>e=.returned (.slice A n c)/\w=w' :=
 (lc A n c B xs w b d h).mono fun e w' ⟨⟨k,p,g,i,j,l⟩,m⟩=>by
  have a:=aJ i j;have o:=aJ h f;rw[l,<-o]at a;subst a;exact⟨g,m⟩
def fF{a b:Value}(h:gK w g 50 #[a,b]):w.cell? ⟨g,0,none⟩=some a/\w.cell? ⟨g,1,none⟩=some b:=by
 have c:=h.cell 0;have d:=h.cell 1;simpa using⟨c,d⟩
def RI(va vb:Value)(za zb:Int)(B:Nat)(w:World)(hB:B<=w.heap.size)(ha:eV w B va za)(hb:eV w B vb zb)(sa:nl za.natAbs<=536870912)(sb:nl zb.natAbs<=536870912) :
  Calls ai 133 #[va,vb] w (dU w (za+zb)):=by
 obtain⟨s1,A,n,c,xs,rfl,hnc,hx,tx,rfl⟩:=ha;obtain⟨s2,D,m,d,ys,rfl,hmd,hy,ty,rfl⟩:=hb;rw[fV,<-aJ hx tx]at sa;rw[fV,<-aJ hy ty]at sb;have HX:=ac hx;clear hx;have HY:=ac hy;clear hy;have HTX:=ac tx;clear tx;have HTY:=ac ty;clear ty
 go_enter func133,ntmps133
 go_wp2;have hb0:=((((aY w.heap.size w).alloc (ae _) (Obj.cells #[au s1,ao A n c] 50)).alloc sm (Obj.cells #[au s2,ao D m d] 50)).alloc (by simp;omega) (Obj.cells #[au false,ao none 0 0] 50))
 have k1:gK (((w.alloc (Obj.cells #[au s1,ao A n c] 50)).alloc (Obj.cells #[au s2,ao D m d] 50)).alloc (Obj.cells #[au false,ao none 0 0] 50)) w.heap.size 50 #[au s1,ao A n c] :=
  ((gK.new w 50 _).below ((aY _ _).alloc (ae _) _) sm).below ((aY _ _).alloc (ae _) _) (by simp;omega)
 have k2:gK (((w.alloc (Obj.cells #[au s1,ao A n c] 50)).alloc (Obj.cells #[au s2,ao D m d] 50)).alloc (Obj.cells #[au false,ao none 0 0] 50)) (w.heap.size+1) 50 #[au s2,ao D m d]:=by
  have h:=(gK.new (w.alloc (Obj.cells #[au s1,ao A n c] 50)) 50 #[au s2,ao D m d]).below ((aY _ _).alloc (ae _) (Obj.cells #[au false,ao none 0 0] 50)) sm
  simpa using h
 have k3:gK (((w.alloc (Obj.cells #[au s1,ao A n c] 50)).alloc (Obj.cells #[au s2,ao D m d] 50)).alloc (Obj.cells #[au false,ao none 0 0] 50)) (w.heap.size+2) 50 #[au false,ao none 0 0]:=by
  have h:=gK.new ((w.alloc (Obj.cells #[au s1,ao A n c] 50)).alloc (Obj.cells #[au s2,ao D m d] 50)) 50 #[au false,ao none 0 0];simpa using h
 generalize (((w.alloc (Obj.cells #[au s1,ao A n c] 50)).alloc (Obj.cells #[au s2,ao D m d] 50)).alloc (Obj.cells #[au false,ao none 0 0] 50))=W at hb0 k1 k2 k3 ⊢;obtain⟨a0,a1⟩:=fF k1;obtain⟨b0,b1⟩:=fF k2;have HK1:=ac k1;clear k1;have HK2:=ac k2;clear k2;have HK3:=ac k3;clear k3;have HB0:=ac hb0;clear hb0;have hg2:w.heap.size+2<W.heap.size:=HK3.out.lt;have HS:=ac (show ∀w1,Below (w.heap.size+2) W w1->(w1.cell? ⟨w.heap.size,0,none⟩=some (.bool s1)/\w1.cell? ⟨w.heap.size,1,none⟩=some (.slice A n c)/\w1.cell? ⟨w.heap.size+1,0,none⟩=some (.bool s2)/\w1.cell? ⟨w.heap.size+1,1,none⟩=some (.slice D m d)/\Below (w.heap.size+2) W w1)from
  fun w1 h=>⟨(h.cell (by show w.heap.size<_;omega)).trans a0,(h.cell (by show w.heap.size<_;omega)).trans a1,(h.cell (by show w.heap.size+1<_;omega)).trans b0,(h.cell (by show w.heap.size+1<_;omega)).trans b1,h⟩)
 have HUX:Hid (cI W.drew B A n xs):=ac (HX.out.below HB0.out.drew hB);have HUY:Hid (cI W.drew B D m ys):=ac (HY.out.below HB0.out.drew hB)
 go_region_held3 (fun w'=>w'.cell? ⟨w.heap.size,0,none⟩=some (.bool s1)/\w'.cell? ⟨w.heap.size,1,none⟩=some (.slice A n c)/\w'.cell? ⟨w.heap.size+1,0,none⟩=some (.bool s2)/\w'.cell? ⟨w.heap.size+1,1,none⟩=some (.slice D m d)/\Below (w.heap.size+2) W w')
  (first|exact HS.out _ (aY _ _).drew|assumption|exact HS.out _ (by assumption)|exact HS.out _ (eR (eR (by assumption) sm _) sm _))
  (first
   | (go_at_call_of 136 (ao A n c);refine(gE A n c B xs W.drew hnc om HUX.out HTX.out).mono ?_;rintro e w' ⟨rfl,rfl⟩)
   | (go_at_call_of 136 (ao D m d);refine(gE D m d B ys W.drew hmd om HUY.out HTY.out).mono ?_;rintro e w' ⟨rfl,rfl⟩)
   | (go_at_call 194;refine(sW s1 s2 A D n m c d B xs ys W.drew sa sb (by show B<=W.heap.size;omega) HUX.out HUY.out HTX.out HTY.out).mono ?_;rintro e w1 ⟨v,rfl,hI,hbn⟩;obtain⟨neg,A2,n2,c2,zs2,rfl,hI2⟩:=hI;have hB1:Below (w.heap.size+2) W w1:=(aY _ W).drew.trans (hbn.mono (by show _<=W.heap.size;omega));have HI:=ac hI2;clear hI2;have hk3:=gK.below (w:=W.drew) HK3.out hbn hg2;obtain⟨e0,e1⟩:=fF hk3;have f0:=hk3.frozen 0;have f1:=hk3.frozen 1;have HK4:=ac hk3;clear hk3 hbn))
 go_wp2;exact cM (v:=.agg #[.bool neg,.slice A2 n2 c2]) (by simp[results,results133,go_sem,e0,e1]) rfl
   (dU.cell ⟨neg,A2,n2,c2,zs2,rfl,HI.out⟩ HK4.out (HB0.out.trans (hB1.mono om)) om rfl)
def Rn(va vb:Value)(za zb:Int)(B:Nat)(w:World)(hB:B<=w.heap.size)(ha:eV w B va za)(hb:eV w B vb zb)(sa:nl za.natAbs<=536870912)(sb:nl zb.natAbs<=536870912) :
  Calls ai 192 #[va,vb] w (dU w (za-zb)):=by
 obtain⟨s1,A,n,c,xs,rfl,hnc,hx,tx,rfl⟩:=ha;obtain⟨s2,D,m,d,ys,rfl,hmd,hy,ty,rfl⟩:=hb;rw[fV,<-aJ hx tx]at sa;rw[fV,<-aJ hy ty]at sb;have HX:=ac hx;clear hx;have HY:=ac hy;clear hy;have HTX:=ac tx;clear tx;have HTY:=ac ty;clear ty
 go_enter func192,ntmps192
 go_wp2;have hb0:=((((aY w.heap.size w).alloc (ae _) (Obj.cells #[au s1,ao A n c] 50)).alloc sm (Obj.cells #[au s2,ao D m d] 50)).alloc (by simp;omega) (Obj.cells #[au false,ao none 0 0] 50))
 have k1:gK (((w.alloc (Obj.cells #[au s1,ao A n c] 50)).alloc (Obj.cells #[au s2,ao D m d] 50)).alloc (Obj.cells #[au false,ao none 0 0] 50)) w.heap.size 50 #[au s1,ao A n c] :=
  ((gK.new w 50 _).below ((aY _ _).alloc (ae _) _) sm).below ((aY _ _).alloc (ae _) _) (by simp;omega)
 have k2:gK (((w.alloc (Obj.cells #[au s1,ao A n c] 50)).alloc (Obj.cells #[au s2,ao D m d] 50)).alloc (Obj.cells #[au false,ao none 0 0] 50)) (w.heap.size+1) 50 #[au s2,ao D m d]:=by
  have h:=(gK.new (w.alloc (Obj.cells #[au s1,ao A n c] 50)) 50 #[au s2,ao D m d]).below ((aY _ _).alloc (ae _) (Obj.cells #[au false,ao none 0 0] 50)) sm
  simpa using h
 have k3:gK (((w.alloc (Obj.cells #[au s1,ao A n c] 50)).alloc (Obj.cells #[au s2,ao D m d] 50)).alloc (Obj.cells #[au false,ao none 0 0] 50)) (w.heap.size+2) 50 #[au false,ao none 0 0]:=by
  have h:=gK.new ((w.alloc (Obj.cells #[au s1,ao A n c] 50)).alloc (Obj.cells #[au s2,ao D m d] 50)) 50 #[au false,ao none 0 0];simpa using h
 generalize (((w.alloc (Obj.cells #[au s1,ao A n c] 50)).alloc (Obj.cells #[au s2,ao D m d] 50)).alloc (Obj.cells #[au false,ao none 0 0] 50))=W at hb0 k1 k2 k3 ⊢;obtain⟨a0,a1⟩:=fF k1;obtain⟨b0,b1⟩:=fF k2;have HK1:=ac k1;clear k1;have HK2:=ac k2;clear k2;have HK3:=ac k3;clear k3;have HB0:=ac hb0;clear hb0;have hg2:w.heap.size+2<W.heap.size:=HK3.out.lt;have HS:=ac (show ∀w1,Below (w.heap.size+2) W w1->(w1.cell? ⟨w.heap.size,0,none⟩=some (.bool s1)/\w1.cell? ⟨w.heap.size,1,none⟩=some (.slice A n c)/\w1.cell? ⟨w.heap.size+1,0,none⟩=some (.bool s2)/\w1.cell? ⟨w.heap.size+1,1,none⟩=some (.slice D m d)/\Below (w.heap.size+2) W w1)from
  fun w1 h=>⟨(h.cell (by show w.heap.size<_;omega)).trans a0,(h.cell (by show w.heap.size<_;omega)).trans a1,(h.cell (by show w.heap.size+1<_;omega)).trans b0,(h.cell (by show w.heap.size+1<_;omega)).trans b1,h⟩)
 have HUX:Hid (cI W.drew B A n xs):=ac (HX.out.below HB0.out.drew hB);have HUY:Hid (cI W.drew B D m ys):=ac (HY.out.below HB0.out.drew hB)
 go_region_held3 (fun w'=>w'.cell? ⟨w.heap.size,0,none⟩=some (.bool s1)/\w'.cell? ⟨w.heap.size,1,none⟩=some (.slice A n c)/\w'.cell? ⟨w.heap.size+1,0,none⟩=some (.bool s2)/\w'.cell? ⟨w.heap.size+1,1,none⟩=some (.slice D m d)/\Below (w.heap.size+2) W w')
  (first|exact HS.out _ (aY _ _).drew|assumption|exact HS.out _ (by assumption)|exact HS.out _ (eR (eR (by assumption) sm _) sm _))
  (first
   | (go_at_call_of 136 (ao A n c);refine(gE A n c B xs W.drew hnc om HUX.out HTX.out).mono ?_;rintro e w' ⟨rfl,rfl⟩)
   | (go_at_call_of 136 (ao D m d);refine(gE D m d B ys W.drew hmd om HUY.out HTY.out).mono ?_;rintro e w' ⟨rfl,rfl⟩)
   | (go_at_call 194;refine(sW s1 (!s2) A D n m c d B xs ys W.drew sa sb (by show B<=W.heap.size;omega) HUX.out HUY.out HTX.out HTY.out).mono ?_;rintro e w1 ⟨v,rfl,hI,hbn⟩;obtain⟨neg,A2,n2,c2,zs2,rfl,hI2⟩:=hI;have hB1:Below (w.heap.size+2) W w1:=(aY _ W).drew.trans (hbn.mono (by show _<=W.heap.size;omega));have HI:=ac hI2;clear hI2;have hk3:=gK.below (w:=W.drew) HK3.out hbn hg2;obtain⟨e0,e1⟩:=fF hk3;have f0:=hk3.frozen 0;have f1:=hk3.frozen 1;have HK4:=ac hk3;clear hk3 hbn))
 go_wp2;exact cM (v:=.agg #[.bool neg,.slice A2 n2 c2]) (by simp[results,results192,go_sem,e0,e1]) rfl
   (dU.cell ⟨neg,A2,n2,c2,zs2,rfl,HI.out⟩ HK4.out (HB0.out.trans (hB1.mono om)) om (by rw[Hd];omega))
def AY(va:Value)(za:Int)(B:Nat)(w:World)(hB:B<=w.heap.size)(ha:eV w B va za)(sa:nl za.natAbs<=536870912) :
  Calls ai 191 #[va] w fun e w'=>e=.returned (.int .i64 za.sign)/\Below w.heap.size w w':=by
 obtain⟨s1,A,n,c,xs,rfl,hnc,hx,tx,rfl⟩:=ha;rw[fV,<-aJ hx tx]at sa;have hb0:=(aY w.heap.size w).alloc (ae _) (Obj.cells #[au s1,ao A n c] 50);have HU:=ac (hx.below hb0 hB);have HL:=ac (aJ hx tx);have HT:=ac tx;clear tx;have HX:=ac hx;clear hx;have HB:=ac hb0;clear hb0;by_cases h0:n=0
 .subst h0;have hv:aZ xs=0:=by rw[ny.1 HX.out.1]<;>rfl
  have hr:(sg s1 (aZ xs)).sign=0:=by rw[hv,tZ]<;>rfl
  have HR:=ac hr;clear hr hv
  go_enter func191,VI
  go_wp2_with fail
  refine(gE A 0 c B xs _ hnc om HU.out HT.out).mono ?_;rintro e w' ⟨rfl,rfl⟩;go_wp2;go_ret;exact⟨by rw[HR.out];rfl,HB.out⟩
 .have hv:0<aZ xs:=by
   rcases bn (aZ xs)with h|h
   .have:=HL.out;rw[h]at this;simp[nl]at this;omega
   .exact h
  have h1:((n:Int)==0)=false:=by simp;omega
  cases s1
  .have hr:(sg false (aZ xs)).sign=1:=by simp[sg];omega
   have HR:=ac hr;clear hr hv
   go_enter func191,VI
   go_wp2_with fail
   refine(gE A n c B xs _ hnc om HU.out HT.out).mono ?_;rintro e w' ⟨rfl,rfl⟩;go_wp2;go_ret;exact⟨by rw[HR.out];rfl,HB.out⟩
  .have hr:(sg true (aZ xs)).sign=-1:=by simp[sg];omega
   have HR:=ac hr;clear hr hv
   go_enter func191,VI
   go_wp2_with fail
   refine(gE A n c B xs _ hnc om HU.out HT.out).mono ?_;rintro e w' ⟨rfl,rfl⟩;go_wp2;go_ret;exact⟨by rw[HR.out];rfl,HB.out⟩
def LW(z:Int)(w:World)(h1:-9223372036854775808<=z)(h2:z<=9223372036854775807):Calls ai 81 #[.int .i64 z] w (dU w z):=by
 have hb0:=(aY w.heap.size w).alloc (ae _) (Obj.cells #[au false,ao none 0 0] 50);have HB0:=ac hb0;clear hb0;by_cases hz:z<0
 .go_enter func81,ntmps81
  go_wp2_with fail
  rw[show IntKind.u64.wrap (-IntKind.u64.wrap z)=((z.natAbs:Nat):Int)from by rw[ci,ci];omega]
  refine(kM z.natAbs _ om).mono ?_;rintro e w1 ⟨A1,k,c1,zs,rfl,hk,hU,hT,hv,hb1⟩;have hk2:k<=2:=by rw[aJ hU hT,hv];exact kb.2 om
  have HU:=ac hU;clear hU;have HV:=ac hv;clear hv;have HT:=ac hT;clear hT;have HB1:=ac hb1;clear hb1
  go_wp2_with fail
  refine(ic true A1 k c1 w1.heap.size zs w1 hk om (ae _) HU.out HT.out).mono ?_;rintro e w2 ⟨v,rfl,hI,hb2⟩;obtain⟨neg,A2,n2,c2,zs2,rfl,hI2⟩:=hI;have hsz:w.heap.size+1<=w1.heap.size:=by have:=HB1.out.size;simpa using this
  have hblk:gK w2 w.heap.size 50 #[.bool false,.slice none 0 0]:=(gK.below (w:=w.alloc (Obj.cells #[au false,ao none 0 0] 50)) (gK.new w 50 _) HB1.out sm).below hb2 om
  obtain⟨hc0,hc1⟩:=fF hblk;have hf0:=hblk.frozen 0;have hf1:=hblk.frozen 1;have HK:=ac hblk;clear hblk;have HI:=ac hI2;clear hI2;have HB2:=ac hb2;clear hb2;go_wp2;exact cM (v:=.agg #[.bool neg,.slice A2 n2 c2]) (by simp[results,results81,go_sem,hc0,hc1]) rfl
   (dU.cell ⟨neg,A2,n2,c2,zs2,rfl,HI.out⟩ HK.out ((HB0.out.trans (HB1.out.mono sm)).trans (HB2.out.mono om)) (ae _) (by rw[HV.out];simp[sg];omega))
 .go_enter func81,ntmps81
  go_wp2_with fail
  obtain⟨v0,rfl⟩:∃v0:Nat,z=(v0:Int):=⟨z.toNat,om⟩
  refine(kM v0 _ om).mono ?_;rintro e w1 ⟨A1,k,c1,zs,rfl,hk,hU,hT,hv,hb1⟩;have hk2:k<=2:=by rw[aJ hU hT,hv];exact kb.2 om
  have HU:=ac hU;clear hU;have HV:=ac hv;clear hv;have HT:=ac hT;clear hT;have HB1:=ac hb1;clear hb1
  go_wp2_with fail
  refine(ic false A1 k c1 w1.heap.size zs w1 hk om (ae _) HU.out HT.out).mono ?_;rintro e w2 ⟨v,rfl,hI,hb2⟩;obtain⟨neg,A2,n2,c2,zs2,rfl,hI2⟩:=hI;have hsz:w.heap.size+1<=w1.heap.size:=by have:=HB1.out.size;simpa using this
  have hblk:gK w2 w.heap.size 50 #[.bool false,.slice none 0 0]:=(gK.below (w:=w.alloc (Obj.cells #[au false,ao none 0 0] 50)) (gK.new w 50 _) HB1.out sm).below hb2 om
  obtain⟨hc0,hc1⟩:=fF hblk;have hf0:=hblk.frozen 0;have hf1:=hblk.frozen 1;have HK:=ac hblk;clear hblk;have HI:=ac hI2;clear hI2;have HB2:=ac hb2;clear hb2;go_wp2;exact cM (v:=.agg #[.bool neg,.slice A2 n2 c2]) (by simp[results,results81,go_sem,hc0,hc1]) rfl
   (dU.cell ⟨neg,A2,n2,c2,zs2,rfl,HI.out⟩ HK.out ((HB0.out.trans (HB1.out.mono sm)).trans (HB2.out.mono om)) (ae _) (by rw[HV.out];simp[sg]))

end Go.Proofs.YtdobfmlmenaajaaGreatDoor
