/-
  Lemmas for NeighbourIndex.
-/
import Derived.Test.YtdobfmlmenaajaaGreatDoorJ01
namespace Go.Proofs.YtdobfmlmenaajaaGreatDoor
open Go.RowKit Tryz
open Below renaming refl→a8
open Lib renaming hid→ag
open _root_.List renaming drop_of_length_le→fU
open _root_.Nat renaming le_refl→ah,eq_zero_or_pos→bU
open Tryz renaming prog→aj
open Value renaming slice→aq,bool→aC,int→dD
set_option maxHeartbeats 6400000
set_option maxRecDepth 4096
set_option linter.all false
section
variable {P:Program} (w:World)
theorem tP(t ty e:TypeId)(i:TypeInfo)(ht:P.underlying t=some (.slice e))(hi:P.info? e=some i)(A:Option Addr)(c:Nat) :
  (Builtin.append_ #[t,t] ty #[.slice none 0 0,.slice A 0 c]).run P w=.ok (.slice none 0 0) w:=by
 cases A<;>simp[Builtin.append_,run_underlying ht,sizeOf,typeInfo,hi,Builtin.lenOf,Builtin.firstCells,loadCells,loadCellsFrom]
theorem iA{ops:Array Oper}{rest:List Oper}{o:Oper}{a:Act}{Q:Exit->Act->World->Prop}(hgd:o.guard=none)(s x:Operand)(t:TypeId)
  (ho:o.op=.call { callee:=.builtin .append,args:=#[s,x],argTypes:=#[t,t] })
  (e:TypeId) (i:TypeInfo) (z:Value) (size bytes:Nat) (ht:P.underlying t=some (.slice e)) (hi:P.info? e=some i) (hz:i.zero=some z)
  (hsize:i.size=size) (hby:i.bytes=bytes) (hzs:z.cells.size=size) (hsz:0<size)
  (hs:a.eval s=.slice none 0 0)
  (A:Option Addr) (m c:Nat) (news:List Value) (hx:a.eval x=.slice A m c) (hl:news.length=m*size) (hnews:0<m->∃ad,A=some ad/\∀j u,news[j]? = some u->w.cell? (ad.add j)=some u) (h1:∀u∈news,u.oneCell'=true)
  (h63:m<=maxLen) (hbytes:m*bytes<=140737488355328)
  (h:∀A' c' w',w'.ownsRow w.heap.size e size (.slice A' m c') m news->w.grownBy w' none->wpList P ops Q rest (a.put o.dst (.slice A' m c')) w') :
  wpList P ops Q (o::rest) a w:=by
 rcases bU m with hm|hm
 ·subst hm;have hn:news=[]:=List.eq_nil_of_length_eq_zero (by simpa using hl)
  subst hn;refine wpList_plain hgd fun K hK=>?_;unfold Oper.wp execOp;simp only[ho,resolve,invoke,builtin,Sem.run_bind,Sem.run_pure,Result.andThen_ok,List.map_toArray,List.map_cons,List.map_nil,hs,hx,tP w t o.type e i ht hi A c];exact hK _ _ (h none 0 w (World.ownsRow_nil w _ e size) ⟨rfl,rfl,rfl,ah _,fun _ _ _=>rfl⟩)
 ·obtain⟨ad,rfl,hc⟩:=hnews hm;refine wpList_append_own_at w hgd s x t ho w.heap.size e i z size bytes ht hi hz hsize hby hzs hsz (.slice none 0 0) 0 [] hs (World.ownsRow_nil w _ e size) ad m c news hx hl hc h1 om (by simpa using hbytes) (ah _) ?_
  intro v' w' hown hgrow hnil _;rw[Nat.zero_add,List.nil_append]at hown;obtain⟨A',c',rfl⟩:∃A' c',v'=.slice A' m c':=by
   rcases hown.2 with⟨h,h0⟩|⟨g,cap,_,h,_⟩
   ·omega
   ·exact⟨_,_,h⟩
  exact h A' c' w' hown hgrow
end
def iN(xs:List Nat):List Value:=xs.map (fun x:Nat=>dD .u32 x)
theorem rb(xs:List Nat):∀u∈iN xs,u.oneCell'=true:=by
 intro u hu;simp only[iN,List.mem_map]at hu;obtain⟨x,_,rfl⟩:=hu;rfl
theorem cc.src{w:World}{B:Nat}{A:Option Addr}{n:Nat}{xs:List Nat}(h:cc w B A n xs):0<n->∃ad,A=some ad/\∀j u,(iN xs)[j]? = some u->w.cell? (ad.add j)=some u:=by
 intro hn;obtain⟨ad,rfl,_⟩:=h.2.2 hn;exact⟨ad,rfl,h.cells⟩
theorem fH(A:Option Addr)(n c B:Nat)(xs:List Nat)(w:World)(hn:n<=c)(hm:n<=2147483648)(hB:B<=w.heap.size)(h:cc w B A n xs) :
  Calls aj 71 #[.slice A n c] w (oq w (bv xs)):=by
 have HH:=ag h;clear h
 go_enter func71,ntmps71
 go_wp2
 go_loop [3] (fun s=>∃k:Nat,k<=n/\s=.int .i64 k/\Hid (∀j,k<=j->xs.getD j 0=0)) (fun s=>(intOf s).toNat)
 case atStart=>exact⟨n,ah _,rfl,ag (fun j hj=>by simp[List.getD,List.getElem?_eq_none (show xs.length<=j by rw[HH.out.1];exact hj)])⟩
 case round =>
  obtain⟨k,hk,rfl,hz⟩:=hrel;by_cases h0:k=0
  ·subst h0
   go_wp2_with (at_builtin;refine iA _ rfl _ _ 48 rfl 136 Tryz.t136 (.int .u32 0) 1 4 underlying48 Da Cw CS Dr rfl om rfl A 0 c [] rfl rfl (fun h=>absurd h om) sm sm sm ?_)
   intro A' c' w1 hown hgrow;obtain⟨hU,hc⟩:=cc.ofOwn (xs:=[]) hown (by simp[mo])
   have HU:=ag hU;have HB:=ag (jf hgrow (B:=w.heap.size) (ah _) (by intro g h;cases h))
   have HV:=ag (lT 0 xs hz.out);clear hU hown hgrow hz;go_wp2;go_ret;exact⟨_,_,_,_,rfl,hc,HU.out,vE,by rw[HV.out];rfl,HB.out⟩
  ·obtain⟨m,rfl⟩:∃m,k=m+1:=⟨k-1,om⟩
   obtain⟨ad,x,rfl,_,hx',_,hx⟩:=HH.out.at_ (k:=m) om;have HX:=ag hx';clear hx';by_cases hx0:x=0
   ·subst hx0;go_wp2;refine⟨⟨m,om,by go_num,ag fun j hj=>?_⟩,by simp[intOf]⟩
    rcases Nat.lt_or_ge m j with h|h
    ·exact hz.out j h
    ·obtain rfl:j=m:=om
     exact HX.out
   ·have hb1:((x:Int)==0)=false:=by simp;omega
    have HT:=HH.out.take hk;have HTT:=ag HT;clear HT
    go_wp2_with (at_builtin;refine iA _ rfl _ _ 48 rfl 136 Tryz.t136 (.int .u32 0) 1 4 underlying48 Da Cw CS Dr rfl om rfl (some ad) (m+1) c (iN (xs.take (m+1))) rfl (by simp[iN];rw[HH.out.1];omega) (HTT.out.src) (rb _) (by simp[maxLen];omega) om ?_)
    intro A' c' w1 hown hgrow;obtain⟨hU,hc⟩:=cc.ofOwn hown (HH.out.2.1.take _);have HU:=ag hU;have HB:=ag (jf hgrow (B:=w.heap.size) (ah _) (by intro g h;cases h))
    have HV:=ag (lT (m+1) xs hz.out);have HTP:Hid (oR (xs.take (m+1))):=ag (qT (fun _=>by rw[Nat.add_sub_cancel,HX.out];exact hx0) (by rw[HH.out.1];exact hk))
    clear hU hown hgrow hz;go_wp2;go_ret;exact⟨_,_,_,_,rfl,hc,HU.out,HTP.out,HV.out.symm,HB.out⟩
theorem Lz(neg:Bool)(k v:Nat)(h:k=0->v=0):sg (neg&&decide (0<k)) v=sg neg v:=by
 rcases bU k with h0|h0
 ·rw[h h0,qX,qX]
 ·have:decide (0<k)=true:=by simp;omega
  rw[this,Bool.and_true]
theorem GY{w:World}{B:Nat}{A:Option Addr}{n:Nat}{xs:List Nat}(h:cc w B A n xs):n=0->bv xs=0:=by
 intro h0;subst h0;rw[List.length_eq_zero_iff.1 h.1];rfl
theorem fo.result{w:World}{g:Nat}{a:Bool}{D:Option Addr}{k d:Nat}(h:fo w g 50 #[.bool a,.slice D k d])(neg:Bool)(A:Option Addr)(n c:Nat) :
  fo ((w.setCell ⟨g,0,none⟩ (.bool neg)).setCell ⟨g,1,none⟩ (.slice A n c)) g 50 #[.bool neg,.slice A n c]:=by
 simpa using (h.set_ 0 (.bool neg)).set_ 1 (.slice A n c)
theorem kh(neg:Bool)(A:Option Addr)(n c B:Nat)(xs:List Nat)(w:World)(hn:n<=c)(hm:n<=2147483648)(hB:B<=w.heap.size)(h:cc w B A n xs) :
  Calls aj 103 #[.bool neg,.slice A n c] w (dh w (sg neg (bv xs))):=by
 have HH:=ag h;clear h;have hb0:=(a8 w.heap.size w).alloc (ah _) (Obj.cells #[aC false,aq none 0 0] 50);have HU:=ag (HH.out.below hb0 hB);have HB0:=ag hb0;clear hb0;have hkn:∀(k:Nat) (zs:List Nat) (w':World) (B':Nat) (A':Option Addr),cc w' B' A' k zs->oR zs->bv zs=bv xs->k<=n:=by
  intro k zs w' B' A' hu ht hv;rw[aL hu ht,hv];have h1:=iC HH.out.2.1;rw[HH.out.1]at h1;exact iX.2 h1
 have HKN:=ag hkn;clear hkn;have main:∀(A1:Option Addr) (k c1:Nat) (zs:List Nat) (w1:World),k<=c1->Hid (cc w1 w1.heap.size A1 k zs)->Hid (oR zs)->Hid (bv zs=bv xs)->Hid (Below (w.heap.size+1) (w.alloc (Obj.cells #[aC false,aq none 0 0] 50)) w1) ->
   ∀ng:Bool,ng=(neg&&decide (0<k))->fo w1 w.heap.size 50 #[.bool false,.slice none 0 0]->dh w (sg neg (bv xs)) (.returned (.agg #[.bool ng,.slice A1 k c1])) ((w1.setCell ⟨w.heap.size,0,none⟩ (.bool ng)).setCell ⟨w.heap.size,1,none⟩ (.slice A1 k c1)):=by
  intro A1 k c1 zs w1 hk HU1 HT1 HV1 HB1 ng hng hblk;refine dh.cell ⟨ng,A1,k,c1,zs,rfl,hk,HU1.out,HT1.out,rfl⟩ hblk (HB0.out.trans (HB1.out.mono om)) (ah _) ?_;rw[hng,Lz _ _ _ (GY HU1.out),HV1.out]
 have HM:=ag main;clear main
 cases neg
 ·go_enter func103,ntmps103
  go_wp2_with fail
  refine(fH A n c B xs _ hn hm (by simp;omega) HU.out).mono ?_
  rintro e w1 ⟨A1,k,c1,zs,rfl,hk,hU1,hT1,hv1,hb1⟩;have hkn:=HKN.out _ _ _ _ _ hU1 hT1 hv1;have hblk:fo w1 w.heap.size 50 #[.bool false,.slice none 0 0]:=(fo.new w 50 _).below hb1 sm
  have HB1:Hid (Below (w.heap.size+1) (w.alloc (Obj.cells #[aC false,aq none 0 0] 50)) w1):=ag (by simpa using hb1)
  obtain⟨e0,e1⟩:=ee hblk;have f0:=hblk.frozen 0;have f1:=hblk.frozen 1;have HK:=ag hblk;have HU1:=ag hU1;clear hU1;have HT1:=ag hT1;clear hT1;have HV1:=ag hv1;clear hv1;clear hb1 hblk;go_wp2;exact bodyPost_ret (v:=.agg #[.bool false,.slice A1 k c1]) (by simp[results,results103,go_sem,e0,e1]) rfl (HM.out A1 k c1 zs w1 hk HU1 HT1 HV1 HB1 false sm HK.out)
 ·go_enter func103,ntmps103
  go_wp2_with fail
  refine(fH A n c B xs _ hn hm (by simp;omega) HU.out).mono ?_
  rintro e w1 ⟨A1,k,c1,zs,rfl,hk,hU1,hT1,hv1,hb1⟩;have hkn:=HKN.out _ _ _ _ _ hU1 hT1 hv1;have hblk:fo w1 w.heap.size 50 #[.bool false,.slice none 0 0]:=(fo.new w 50 _).below hb1 sm
  have HB1:Hid (Below (w.heap.size+1) (w.alloc (Obj.cells #[aC false,aq none 0 0] 50)) w1):=ag (by simpa using hb1)
  obtain⟨e0,e1⟩:=ee hblk;have f0:=hblk.frozen 0;have f1:=hblk.frozen 1;have HK:=ag hblk;have HU1:=ag hU1;clear hU1;have HT1:=ag hT1;clear hT1;have HV1:=ag hv1;clear hv1;clear hb1 hblk;go_wp2;exact bodyPost_ret (v:=.agg #[.bool (decide (0<k)),.slice A1 k c1]) (by simp[results,results103,go_sem,e0,e1]) rfl (HM.out A1 k c1 zs w1 hk HU1 HT1 HV1 HB1 _ (by rw[Bool.true_and]) HK.out)
theorem nR(neg:Bool)(v:Nat)(w:World)(hv:v<18446744073709551616) :
  Calls aj 69 #[.bool neg,.int .u64 v] w (dh w (sg neg v)):=by
 have hl:mo [v%4294967296,v/4294967296]:=by
  intro x hx;simp only[List.mem_cons,List.not_mem_nil,or_false]at hx;rcases hx with rfl|rfl<;>omega
 have hvv:bv [v%4294967296,v/4294967296]=v:=by simp[bv];omega
 go_enter func69,ntmps69
 go_wp2_with fail
 obtain⟨W,hW⟩:∃W,W=w.alloc (Obj.cells #[aC false,aq none 0 0] 50):=⟨_,rfl⟩;have hsz:W.heap.size=w.heap.size+1:=by rw[hW];simp
 have hk:fo W w.heap.size 50 #[.bool false,.slice none 0 0]:=by rw[hW];exact fo.new w 50 _
 have HB0:Hid (Below w.heap.size w W):=ag (by rw[hW];exact(a8 w.heap.size w).alloc (ah _) _)
 rw[<-hW];have hb:fo (W.alloc (Obj.cells #[dD IntKind.u32 ((v:Int)%4294967296),dD IntKind.u32 ((v:Int)/4294967296)] 136)) W.heap.size 136 (dr [v%4294967296,v/4294967296] 0):=by
  have:=fo.new W 136 #[dD IntKind.u32 ((v:Int)%4294967296),dD IntKind.u32 ((v:Int)/4294967296)];simpa [dr]using this
 have hbb:=(a8 W.heap.size W).alloc (ah _) (Obj.cells #[dD IntKind.u32 ((v:Int)%4294967296),dD IntKind.u32 ((v:Int)/4294967296)] 136);have hU:=cc.ofBlk (B:=W.heap.size+1) hb hl om rfl;have HK:=ag (hk.below hbb om);have HBV:Hid (Below w.heap.size w (W.alloc (Obj.cells #[dD IntKind.u32 ((v:Int)%4294967296),dD IntKind.u32 ((v:Int)/4294967296)] 136))):=ag (HB0.out.trans (hbb.mono om));rw[hsz]at hU hb;clear hk hb hbb hW;generalize hVV:W.alloc (Obj.cells #[dD IntKind.u32 ((v:Int)%4294967296),dD IntKind.u32 ((v:Int)/4294967296)] 136)=V at HK HBV hU ⊢;have hvs:V.heap.size=w.heap.size+2:=by rw[<-hVV];simp[hsz]
 clear hVV;have HU:=ag hU;clear hU;have HVV:=ag hvv;clear hvv;refine(kh neg _ _ _ (w.heap.size+1+1) _ V (ah _) sm om HU.out).mono ?_
 rintro e w2 ⟨v,rfl,hI,hb2⟩;obtain⟨neg,A2,n2,c2,zs2,rfl,hI2⟩:=hI;have hblk:fo w2 (w.heap.size) 50 #[.bool false,.slice none 0 0]:=fo.below (w:=V) HK.out hb2 om;obtain⟨e0,e1⟩:=ee hblk;have f0:=hblk.frozen 0;have f1:=hblk.frozen 1;have HK2:=ag hblk;clear hblk;have HI:=ag hI2;clear hI2;have HB2:=ag hb2;clear hb2;go_wp2;exact bodyPost_ret (v:=.agg #[.bool neg,.slice A2 n2 c2]) (by simp[results,results69,go_sem,e0,e1]) rfl
  (dh.cell ⟨neg,A2,n2,c2,zs2,rfl,HI.out⟩ HK2.out (HBV.out.trans (HB2.out.mono (by first|omega|(simp;done)|(simp;omega)))) om (by rw[HVV.out]))
theorem Ch(z:Int)(w:World)(h1:-9223372036854775808<=z)(h2:z<=9223372036854775807):Calls aj 29 #[.int .i64 z] w (dh w z):=by
 have HB0:=ag ((a8 w.heap.size w).alloc (ah _) (Obj.cells #[aC false,aq none 0 0] 50));have HK:=ag (fo.new w 50 #[aC false,aq none 0 0]);by_cases hz:z<0
 ·go_enter func29,ntmps29
  go_wp2_with fail
  rw[show IntKind.u64.wrap (-IntKind.u64.wrap z)=((z.natAbs:Nat):Int)from by rw[IntKind.wrap_u64,IntKind.wrap_u64];omega]
  refine(nR true z.natAbs _ om).mono ?_;rintro e w2 ⟨v,rfl,hI,hb2⟩;obtain⟨neg,A2,n2,c2,zs2,rfl,hI2⟩:=hI;have hblk:fo w2 (w.heap.size) 50 #[.bool false,.slice none 0 0]:=fo.below (w:=w.alloc (Obj.cells #[aC false,aq none 0 0] 50)) HK.out hb2 sm
  obtain⟨e0,e1⟩:=ee hblk;have f0:=hblk.frozen 0;have f1:=hblk.frozen 1;have HK2:=ag hblk;clear hblk;have HI:=ag hI2;clear hI2;have HB2:=ag hb2;clear hb2;go_wp2;exact bodyPost_ret (v:=.agg #[.bool neg,.slice A2 n2 c2]) (by simp[results,results29,go_sem,e0,e1]) rfl
   (dh.cell ⟨neg,A2,n2,c2,zs2,rfl,HI.out⟩ HK2.out (HB0.out.trans (HB2.out.mono (by first|omega|(simp;done)|(simp;omega)))) om (by simp[sg];omega))
 ·have hw:IntKind.u64.wrap z=((z.natAbs:Nat):Int):=by rw[IntKind.wrap_u64];omega
  go_enter func29,ntmps29
  go_wp2_with fail
  refine(nR false z.natAbs _ om).mono ?_;rintro e w2 ⟨v,rfl,hI,hb2⟩;obtain⟨neg,A2,n2,c2,zs2,rfl,hI2⟩:=hI;have hblk:fo w2 (w.heap.size) 50 #[.bool false,.slice none 0 0]:=fo.below (w:=w.alloc (Obj.cells #[aC false,aq none 0 0] 50)) HK.out hb2 sm
  obtain⟨e0,e1⟩:=ee hblk;have f0:=hblk.frozen 0;have f1:=hblk.frozen 1;have HK2:=ag hblk;clear hblk;have HI:=ag hI2;clear hI2;have HB2:=ag hb2;clear hb2;go_wp2;exact bodyPost_ret (v:=.agg #[.bool neg,.slice A2 n2 c2]) (by simp[results,results29,go_sem,e0,e1]) rfl
   (dh.cell ⟨neg,A2,n2,c2,zs2,rfl,HI.out⟩ HK2.out (HB0.out.trans (HB2.out.mono (by first|omega|(simp;done)|(simp;omega)))) om (by simp[sg];omega))
theorem yU(va:Value)(za:Int)(B:Nat)(w:World)(hB:B<=w.heap.size)(ha:d7 w B va za)(sa:nl za.natAbs<=2147483648) :
  Calls aj 68 #[va] w (dh w (-za)):=by
 obtain⟨s1,A,n,c,xs,rfl,hnc,hx,tx,rfl⟩:=ha;rw[eX,<-aL hx tx]at sa;have HX:=ag hx;clear hx;have HTX:=ag tx;clear tx
 go_enter func68,ntmps68
 go_wp2_with fail
 obtain⟨hb0,k1,k3⟩:=pm w #[aC s1,aq A n c] #[aC false,aq none 0 0];generalize ((w.alloc (Obj.cells #[aC s1,aq A n c] 50)).alloc (Obj.cells #[aC false,aq none 0 0] 50))=W at hb0 k1 k3 ⊢;have HK:=ag k3;clear k3 k1;have HB0:=ag hb0;clear hb0;have hsz:w.heap.size+1<W.heap.size:=HK.out.lt;refine(kh (!s1) A n c B xs W hnc sa om (HX.out.below HB0.out hB)).mono ?_;rintro e w2 ⟨v,rfl,hI,hb2⟩;obtain⟨neg,A2,n2,c2,zs2,rfl,hI2⟩:=hI;have hblk:fo w2 (w.heap.size+1) 50 #[.bool false,.slice none 0 0]:=fo.below (w:=W) HK.out hb2 om;obtain⟨e0,e1⟩:=ee hblk;have f0:=hblk.frozen 0;have f1:=hblk.frozen 1;have HK2:=ag hblk;clear hblk;have HI:=ag hI2;clear hI2;have HB2:=ag hb2;clear hb2;go_wp2;exact bodyPost_ret (v:=.agg #[.bool neg,.slice A2 n2 c2]) (by simp[results,results68,go_sem,e0,e1]) rfl
  (dh.cell ⟨neg,A2,n2,c2,zs2,rfl,HI.out⟩ HK2.out (HB0.out.trans (HB2.out.mono (by first|omega|(simp;done)|(simp;omega)))) om (by rw[CO]))
theorem Gb(va:Value)(za:Int)(B:Nat)(w:World)(hB:B<=w.heap.size)(ha:d7 w B va za)(sa:nl za.natAbs<=2147483648) :
  Calls aj 45 #[va] w (dh w ((za.natAbs:Int))):=by
 obtain⟨s1,A,n,c,xs,rfl,hnc,hx,tx,rfl⟩:=ha;rw[eX,<-aL hx tx]at sa;have HX:=ag hx;clear hx;have HTX:=ag tx;clear tx
 go_enter func45,ntmps45
 go_wp2_with fail
 obtain⟨hb0,k1,k3⟩:=pm w #[aC s1,aq A n c] #[aC false,aq none 0 0];generalize ((w.alloc (Obj.cells #[aC s1,aq A n c] 50)).alloc (Obj.cells #[aC false,aq none 0 0] 50))=W at hb0 k1 k3 ⊢;have HK:=ag k3;clear k3 k1;have HB0:=ag hb0;clear hb0;have hsz:w.heap.size+1<W.heap.size:=HK.out.lt;refine(kh false A n c B xs W hnc sa om (HX.out.below HB0.out hB)).mono ?_;rintro e w2 ⟨v,rfl,hI,hb2⟩;obtain⟨neg,A2,n2,c2,zs2,rfl,hI2⟩:=hI;have hblk:fo w2 (w.heap.size+1) 50 #[.bool false,.slice none 0 0]:=fo.below (w:=W) HK.out hb2 om;obtain⟨e0,e1⟩:=ee hblk;have f0:=hblk.frozen 0;have f1:=hblk.frozen 1;have HK2:=ag hblk;clear hblk;have HI:=ag hI2;clear hI2;have HB2:=ag hb2;clear hb2;go_wp2;exact bodyPost_ret (v:=.agg #[.bool neg,.slice A2 n2 c2]) (by simp[results,results45,go_sem,e0,e1]) rfl
  (dh.cell ⟨neg,A2,n2,c2,zs2,rfl,HI.out⟩ HK2.out (HB0.out.trans (HB2.out.mono (by first|omega|(simp;done)|(simp;omega)))) om (by rw[eX];simp[sg]))
theorem sV(va:Value)(za:Int)(B:Nat)(w:World)(hB:B<=w.heap.size)(ha:d7 w B va za)(sa:nl za.natAbs<=2147483648) :
  Calls aj 126 #[va] w (dh w (za)):=by
 obtain⟨s1,A,n,c,xs,rfl,hnc,hx,tx,rfl⟩:=ha;rw[eX,<-aL hx tx]at sa;have HX:=ag hx;clear hx;have HTX:=ag tx;clear tx
 go_enter func126,ntmps126
 go_wp2_with fail
 obtain⟨hb0,k1,k3⟩:=pm w #[aC s1,aq A n c] #[aC false,aq none 0 0];generalize ((w.alloc (Obj.cells #[aC s1,aq A n c] 50)).alloc (Obj.cells #[aC false,aq none 0 0] 50))=W at hb0 k1 k3 ⊢;have HK:=ag k3;clear k3 k1;have HB0:=ag hb0;clear hb0;have hsz:w.heap.size+1<W.heap.size:=HK.out.lt;refine(kh s1 A n c B xs W hnc sa om (HX.out.below HB0.out hB)).mono ?_;rintro e w2 ⟨v,rfl,hI,hb2⟩;obtain⟨neg,A2,n2,c2,zs2,rfl,hI2⟩:=hI;have hblk:fo w2 (w.heap.size+1) 50 #[.bool false,.slice none 0 0]:=fo.below (w:=W) HK.out hb2 om;obtain⟨e0,e1⟩:=ee hblk;have f0:=hblk.frozen 0;have f1:=hblk.frozen 1;have HK2:=ag hblk;clear hblk;have HI:=ag hI2;clear hI2;have HB2:=ag hb2;clear hb2;go_wp2;exact bodyPost_ret (v:=.agg #[.bool neg,.slice A2 n2 c2]) (by simp[results,results126,go_sem,e0,e1]) rfl
  (dh.cell ⟨neg,A2,n2,c2,zs2,rfl,HI.out⟩ HK2.out (HB0.out.trans (HB2.out.mono (by first|omega|(simp;done)|(simp;omega)))) om (rfl))
theorem qJ(va:Value)(za:Int)(B:Nat)(w:World)(hB:B<=w.heap.size)(ha:d7 w B va za)(sa:nl za.natAbs<=2147483648) :
  Calls aj 64 #[va] w fun e w'=>e=.returned (.int .i64 za.sign)/\Below w.heap.size w w':=by
 obtain⟨s1,A,n,c,xs,rfl,hnc,hx,tx,rfl⟩:=ha;rw[eX,<-aL hx tx]at sa;have hb0:=(a8 w.heap.size w).alloc (ah _) (Obj.cells #[aC s1,aq A n c] 50);have hk:=fo.new w 50 #[aC s1,aq A n c];have HU:=ag (hx.below hb0 hB);have HX:=ag hx;clear hx;have HTX:=ag tx;clear tx;have HN:=ag (aL HX.out HTX.out);have HC:=ag (l6 s1 (bv xs));have HB0:=ag hb0;clear hb0;have HK:=ag hk;clear hk;generalize hr:(sg s1 (bv xs)).sign=r at HC;clear hr
 go_enter func64,ntmps64
 go_wp2_with fail
 refine(fH A n c B xs _ hnc sa (by simp;omega) HU.out).mono ?_
 rintro e w1 ⟨A1,k,c1,zs,rfl,hk,hU1,hT1,hv1,hb1⟩;have hkn:k=n:=by rw[aL hU1 hT1,hv1];exact HN.out.symm
 subst hkn;have hblk:=HK.out.below hb1 sm
 obtain⟨e0,e1⟩:=ee hblk;have HBB:=ag (HB0.out.trans (hb1.mono sm))
 clear hblk hb1 hU1 hT1 hv1;by_cases h0:k=0
 ·subst h0;have hz:=GY HX.out rfl;have hr:r=0:=by have:=HC.out;omega
  clear hz;subst hr;go_wp2;go_ret;exact⟨rfl,HBB.out⟩
 ·have hpos:0<bv xs:=by
   rcases bU (bv xs)with h|h
   ·have h1:=HN.out;rw[h]at h1;have:nl 0=0:=by have:=iX.2 (om:0<4294967296^0);omega
    omega
   ·exact h
  have h1:((k:Int)==0)=false:=by simp;omega
  cases s1
  ·have hr:r=1:=by have:=HC.out;simp at this;omega
   subst hr;clear hpos;go_wp2;go_ret;exact⟨rfl,HBB.out⟩
  ·have hr:r=-1:=by have:=HC.out;simp at this;omega
   subst hr;clear hpos;go_wp2;go_ret;exact⟨rfl,HBB.out⟩
theorem kQ(A B:Option Addr)(n m c d L:Nat)(xs ys:List Nat)(w:World)(hn:n<=9223372036854775807)(hm:m<=9223372036854775807)(hx:cc w L A n xs)(hy:cc w L B m ys)(tx:oR xs)(ty:oR ys) :
  Calls aj 70 #[.slice A n c,.slice B m d] w fun e w'=>e=.returned (.int .i64 (kc (bv xs) (bv ys)))/\fv w w':=by
 have HX:=ag hx;clear hx;have HY:=ag hy;clear hy;have TX:=ag tx;clear tx;have TY:=ag ty;clear ty;by_cases h1:n<m
 ·have hr:=ag (kb (nS HX.out.2.1 TY.out (by rw[HX.out.1,HY.out.1];exact h1)))
  have hne:((n:Int) != (m:Int))=true:=by simp;omega
  have hne2:¬(n:Int)=m:=om
  go_enter func70,ntmps70
  go_wp2;go_ret;exact⟨by rw[hr.out];rfl,fv.refl _⟩
 by_cases h2:m<n
 ·have hr:=ag (jL (nS HY.out.2.1 TX.out (by rw[HX.out.1,HY.out.1];exact h2)))
  have hne:((n:Int) != (m:Int))=true:=by simp;omega
  have hne2:¬(n:Int)=m:=om
  go_enter func70,ntmps70
  go_wp2;go_ret;exact⟨by rw[hr.out];rfl,fv.refl _⟩
 obtain rfl:n=m:=om
 go_enter func70,ntmps70
 go_wp2
 go_loopw [5] (fun iv wr=>∃(k:Nat),k<=n/\iv=.int .i64 ((k:Int)-1)/\Hid (fv w wr)/\Hid (xs.drop k=ys.drop k)) (fun iv _=>(intOf iv+1).toNat)
 case atStart=>exact⟨n,om,rfl,ag (fv.refl w),ag (by rw[fU (by rw[HX.out.1];omega),fU (by rw[HY.out.1];omega)])⟩
 case round =>
  obtain⟨k,hk,rfl,HQ,HD⟩:=hrel;by_cases h0:k=0
  ·subst h0;have hr:=ag (lg (show bv xs=bv ys by have:=HD.out;simp only[List.drop_zero]at this;rw[this]))
   go_wp2;go_ret;exact⟨by rw[hr.out];rfl,HQ.out⟩
  ·obtain⟨i,rfl⟩:∃i,k=i+1:=⟨k-1,om⟩
   obtain⟨ad,x,rfl,_,hxx,hx4,h3⟩:=(HX.out.still HQ.out).at_ (k:=i) om;obtain⟨bd,y,rfl,_,hyy,hy4,h4⟩:=(HY.out.still HQ.out).at_ (k:=i) om;have HXX:=ag hxx;clear hxx;have HYY:=ag hyy;clear hyy;have e1:((i+1:Nat):Int)-1=(i:Int):=om
   rw[e1];clear e1;have hi0:(0:Int)<=i:=om
   have hin:(i:Int)<n:=om
   rcases Nat.lt_trichotomy x y with hlt|heq|hgt
   ·have hr:=ag (kb (pG HX.out.2.1 (i:=i) (by rw[HX.out.1];omega) (by rw[HX.out.1,HY.out.1]) HD.out (by rw[HXX.out,HYY.out];exact hlt)))
    have hne:((x:Int) != (y:Int))=true:=by simp;omega
    have hne2:¬(x:Int)=y:=om
    go_wp2
    go_quiet (fail)
    go_wp2
    go_quiet (fail)
    go_wp2;go_ret;exact⟨by rw[hr.out];rfl,by repeat' (first|exact HQ.out|apply fv.more)⟩
   ·subst heq;go_wp2
    go_quiet (fail)
    go_wp2
    go_roundw
    case rel=>exact⟨i,om,rfl,ag (by repeat' (first|exact HQ.out|apply fv.more)),ag (by rw[pS (by rw[HX.out.1];omega),pS (xs:=ys) (by rw[HY.out.1];omega),HXX.out,HYY.out,HD.out])⟩
    case measure=>simp[intOf]
   ·have hr:=ag (jL (pG HY.out.2.1 (i:=i) (by rw[HY.out.1];omega) (by rw[HX.out.1,HY.out.1]) HD.out.symm (by rw[HXX.out,HYY.out];exact hgt)))
    have hne:((x:Int) != (y:Int))=true:=by simp;omega
    have hne2:¬(x:Int)=y:=om
    go_wp2
    go_quiet (fail)
    go_wp2
    go_quiet (fail)
    go_wp2;go_ret;exact⟨by rw[hr.out];rfl,by repeat' (first|exact HQ.out|apply fv.more)⟩
end Go.Proofs.YtdobfmlmenaajaaGreatDoor
