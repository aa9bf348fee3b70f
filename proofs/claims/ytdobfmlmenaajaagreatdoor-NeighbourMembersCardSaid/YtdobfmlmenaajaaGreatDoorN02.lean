/-
  Lemmas for NeighbourMembers.
-/
import Derived.Test.YtdobfmlmenaajaaGreatDoorN01
import Derived.Deep.AppendLies
import Derived.Maps.AppendAt
import Derived.Lib.SliceRun
namespace Go.Proofs.YtdobfmlmenaajaaGreatDoor
open Go.RowKit
open Below renaming refl→aX,setCell→dr
open _root_.Int renaming sign_eq_one_of_pos→cK,sign_eq_neg_one_of_neg→gY,lt_trichotomy→iu
open Lib renaming hid→ag
open _root_.List renaming getElem?_eq_getElem→bA,take_of_length_le→bF,replicate→bL,getD→cB,getElem?_map→lP
open _root_.Nat renaming le_refl→ah,eq_zero_or_pos→bO,pow_le_pow_right→ca,pow_succ→cn,lt_trichotomy→dJ
set_option maxHeartbeats 6400000
set_option maxRecDepth 4096
set_option linter.all false
theorem fx(A:Option Addr)(n c B:Nat)(xs:List Nat)(w:World)(hn:n<=c)(hm:n<=9223372036854775807)(h:bX w B A n xs)(ht:ob xs) :
  Calls Tryz.prog 136 #[.slice A n c] w fun e w'=>e=.returned (.slice A n c)/\w=w' :=
 (kF A n c B xs w hn hm h).mono fun e w' ⟨⟨k,hk,he,hU,hT,hv⟩,hw⟩=>by
  have h1:=aH hU hT;have h2:=aH h ht;rw[hv,<-h2]at h1;subst h1;exact⟨he,hw⟩
theorem dN{w:World}{g:Nat}{a b:Value}(h:eF w g 50 #[a,b]):w.cell? ⟨g,0,none⟩=some a/\w.cell? ⟨g,1,none⟩=some b:=by
 have h0:=h.cell 0;have h1:=h.cell 1;simpa using⟨h0,h1⟩
theorem JM(va vb:Value)(za zb:Int)(B:Nat)(w:World)(hB:B<=w.heap.size)(ha:dL w B va za)(hb:dL w B vb zb)(sa:nl za.natAbs<=536870912)(sb:nl zb.natAbs<=536870912) :
  Calls Tryz.prog 133 #[va,vb] w (cU w (za+zb)):=by
 obtain⟨s1,A,n,c,xs,rfl,hnc,hx,tx,rfl⟩:=ha;obtain⟨s2,D,m,d,ys,rfl,hmd,hy,ty,rfl⟩:=hb;rw[eC,<-aH hx tx]at sa;rw[eC,<-aH hy ty]at sb;have HX:=ag hx;clear hx;have HY:=ag hy;clear hy;have HTX:=ag tx;clear tx;have HTY:=ag ty;clear ty
 go_enter Tryz.func133,Tryz.ntmps133
 go_wp2;have hb0:=((((aX w.heap.size w).alloc (ah _) (Obj.cells #[Value.bool s1,Value.slice A n c] 50)).alloc (by simp) (Obj.cells #[Value.bool s2,Value.slice D m d] 50)).alloc (by simp;omega) (Obj.cells #[Value.bool false,Value.slice none 0 0] 50))
 have k1:eF (((w.alloc (Obj.cells #[Value.bool s1,Value.slice A n c] 50)).alloc (Obj.cells #[Value.bool s2,Value.slice D m d] 50)).alloc (Obj.cells #[Value.bool false,Value.slice none 0 0] 50)) w.heap.size 50 #[Value.bool s1,Value.slice A n c] :=
  ((eF.new w 50 _).below ((aX _ _).alloc (ah _) _) (by simp)).below ((aX _ _).alloc (ah _) _) (by simp;omega)
 have k2:eF (((w.alloc (Obj.cells #[Value.bool s1,Value.slice A n c] 50)).alloc (Obj.cells #[Value.bool s2,Value.slice D m d] 50)).alloc (Obj.cells #[Value.bool false,Value.slice none 0 0] 50)) (w.heap.size+1) 50 #[Value.bool s2,Value.slice D m d]:=by
  have h:=(eF.new (w.alloc (Obj.cells #[Value.bool s1,Value.slice A n c] 50)) 50 #[Value.bool s2,Value.slice D m d]).below ((aX _ _).alloc (ah _) (Obj.cells #[Value.bool false,Value.slice none 0 0] 50)) (by simp)
  simpa using h
 have k3:eF (((w.alloc (Obj.cells #[Value.bool s1,Value.slice A n c] 50)).alloc (Obj.cells #[Value.bool s2,Value.slice D m d] 50)).alloc (Obj.cells #[Value.bool false,Value.slice none 0 0] 50)) (w.heap.size+2) 50 #[Value.bool false,Value.slice none 0 0]:=by
  have h:=eF.new ((w.alloc (Obj.cells #[Value.bool s1,Value.slice A n c] 50)).alloc (Obj.cells #[Value.bool s2,Value.slice D m d] 50)) 50 #[Value.bool false,Value.slice none 0 0];simpa using h
 generalize (((w.alloc (Obj.cells #[Value.bool s1,Value.slice A n c] 50)).alloc (Obj.cells #[Value.bool s2,Value.slice D m d] 50)).alloc (Obj.cells #[Value.bool false,Value.slice none 0 0] 50))=W at hb0 k1 k2 k3 ⊢;obtain⟨a0,a1⟩:=dN k1;obtain⟨b0,b1⟩:=dN k2;have HK1:=ag k1;clear k1;have HK2:=ag k2;clear k2;have HK3:=ag k3;clear k3;have HB0:=ag hb0;clear hb0;have hg2:w.heap.size+2<W.heap.size:=HK3.out.lt;have HS:=ag (show ∀w1,Below (w.heap.size+2) W w1->(w1.cell? ⟨w.heap.size,0,none⟩=some (.bool s1)/\w1.cell? ⟨w.heap.size,1,none⟩=some (.slice A n c)/\w1.cell? ⟨w.heap.size+1,0,none⟩=some (.bool s2)/\w1.cell? ⟨w.heap.size+1,1,none⟩=some (.slice D m d)/\Below (w.heap.size+2) W w1)from
  fun w1 h=>⟨(h.cell (by show w.heap.size<_;omega)).trans a0,(h.cell (by show w.heap.size<_;omega)).trans a1,(h.cell (by show w.heap.size+1<_;omega)).trans b0,(h.cell (by show w.heap.size+1<_;omega)).trans b1,h⟩)
 have HUX:Hid (bX W.drew B A n xs):=ag (HX.out.below HB0.out.drew hB);have HUY:Hid (bX W.drew B D m ys):=ag (HY.out.below HB0.out.drew hB)
 go_region_held3 (fun w'=>w'.cell? ⟨w.heap.size,0,none⟩=some (.bool s1)/\w'.cell? ⟨w.heap.size,1,none⟩=some (.slice A n c)/\w'.cell? ⟨w.heap.size+1,0,none⟩=some (.bool s2)/\w'.cell? ⟨w.heap.size+1,1,none⟩=some (.slice D m d)/\Below (w.heap.size+2) W w')
  (first|exact HS.out _ (aX _ _).drew|assumption|exact HS.out _ (by assumption)|exact HS.out _ (dr (dr (by assumption) (by simp) _) (by simp) _))
  (first
   | (go_at_call_of 136 (Value.slice A n c);refine(fx A n c B xs W.drew hnc om HUX.out HTX.out).mono ?_;rintro e w' ⟨rfl,rfl⟩)
   | (go_at_call_of 136 (Value.slice D m d);refine(fx D m d B ys W.drew hmd om HUY.out HTY.out).mono ?_;rintro e w' ⟨rfl,rfl⟩)
   | (go_at_call 194;refine(pD s1 s2 A D n m c d B xs ys W.drew sa sb (by show B<=W.heap.size;omega) HUX.out HUY.out HTX.out HTY.out).mono ?_;rintro e w1 ⟨v,rfl,hI,hbn⟩;obtain⟨neg,A2,n2,c2,zs2,rfl,hI2⟩:=hI;have hB1:Below (w.heap.size+2) W w1:=(aX _ W).drew.trans (hbn.mono (by show _<=W.heap.size;omega));have HI:=ag hI2;clear hI2;have hk3:=eF.below (w:=W.drew) HK3.out hbn hg2;obtain⟨e0,e1⟩:=dN hk3;have f0:=hk3.frozen 0;have f1:=hk3.frozen 1;have HK4:=ag hk3;clear hk3 hbn))
 go_wp2;exact bodyPost_ret (v:=.agg #[.bool neg,.slice A2 n2 c2]) (by simp[results,Tryz.results133,go_sem,e0,e1]) rfl
   (cU.cell ⟨neg,A2,n2,c2,zs2,rfl,HI.out⟩ HK4.out (HB0.out.trans (hB1.mono om)) om rfl)
theorem JA(va vb:Value)(za zb:Int)(B:Nat)(w:World)(hB:B<=w.heap.size)(ha:dL w B va za)(hb:dL w B vb zb)(sa:nl za.natAbs<=536870912)(sb:nl zb.natAbs<=536870912) :
  Calls Tryz.prog 192 #[va,vb] w (cU w (za-zb)):=by
 obtain⟨s1,A,n,c,xs,rfl,hnc,hx,tx,rfl⟩:=ha;obtain⟨s2,D,m,d,ys,rfl,hmd,hy,ty,rfl⟩:=hb;rw[eC,<-aH hx tx]at sa;rw[eC,<-aH hy ty]at sb;have HX:=ag hx;clear hx;have HY:=ag hy;clear hy;have HTX:=ag tx;clear tx;have HTY:=ag ty;clear ty
 go_enter Tryz.func192,Tryz.ntmps192
 go_wp2;have hb0:=((((aX w.heap.size w).alloc (ah _) (Obj.cells #[Value.bool s1,Value.slice A n c] 50)).alloc (by simp) (Obj.cells #[Value.bool s2,Value.slice D m d] 50)).alloc (by simp;omega) (Obj.cells #[Value.bool false,Value.slice none 0 0] 50))
 have k1:eF (((w.alloc (Obj.cells #[Value.bool s1,Value.slice A n c] 50)).alloc (Obj.cells #[Value.bool s2,Value.slice D m d] 50)).alloc (Obj.cells #[Value.bool false,Value.slice none 0 0] 50)) w.heap.size 50 #[Value.bool s1,Value.slice A n c] :=
  ((eF.new w 50 _).below ((aX _ _).alloc (ah _) _) (by simp)).below ((aX _ _).alloc (ah _) _) (by simp;omega)
 have k2:eF (((w.alloc (Obj.cells #[Value.bool s1,Value.slice A n c] 50)).alloc (Obj.cells #[Value.bool s2,Value.slice D m d] 50)).alloc (Obj.cells #[Value.bool false,Value.slice none 0 0] 50)) (w.heap.size+1) 50 #[Value.bool s2,Value.slice D m d]:=by
  have h:=(eF.new (w.alloc (Obj.cells #[Value.bool s1,Value.slice A n c] 50)) 50 #[Value.bool s2,Value.slice D m d]).below ((aX _ _).alloc (ah _) (Obj.cells #[Value.bool false,Value.slice none 0 0] 50)) (by simp)
  simpa using h
 have k3:eF (((w.alloc (Obj.cells #[Value.bool s1,Value.slice A n c] 50)).alloc (Obj.cells #[Value.bool s2,Value.slice D m d] 50)).alloc (Obj.cells #[Value.bool false,Value.slice none 0 0] 50)) (w.heap.size+2) 50 #[Value.bool false,Value.slice none 0 0]:=by
  have h:=eF.new ((w.alloc (Obj.cells #[Value.bool s1,Value.slice A n c] 50)).alloc (Obj.cells #[Value.bool s2,Value.slice D m d] 50)) 50 #[Value.bool false,Value.slice none 0 0];simpa using h
 generalize (((w.alloc (Obj.cells #[Value.bool s1,Value.slice A n c] 50)).alloc (Obj.cells #[Value.bool s2,Value.slice D m d] 50)).alloc (Obj.cells #[Value.bool false,Value.slice none 0 0] 50))=W at hb0 k1 k2 k3 ⊢;obtain⟨a0,a1⟩:=dN k1;obtain⟨b0,b1⟩:=dN k2;have HK1:=ag k1;clear k1;have HK2:=ag k2;clear k2;have HK3:=ag k3;clear k3;have HB0:=ag hb0;clear hb0;have hg2:w.heap.size+2<W.heap.size:=HK3.out.lt;have HS:=ag (show ∀w1,Below (w.heap.size+2) W w1->(w1.cell? ⟨w.heap.size,0,none⟩=some (.bool s1)/\w1.cell? ⟨w.heap.size,1,none⟩=some (.slice A n c)/\w1.cell? ⟨w.heap.size+1,0,none⟩=some (.bool s2)/\w1.cell? ⟨w.heap.size+1,1,none⟩=some (.slice D m d)/\Below (w.heap.size+2) W w1)from
  fun w1 h=>⟨(h.cell (by show w.heap.size<_;omega)).trans a0,(h.cell (by show w.heap.size<_;omega)).trans a1,(h.cell (by show w.heap.size+1<_;omega)).trans b0,(h.cell (by show w.heap.size+1<_;omega)).trans b1,h⟩)
 have HUX:Hid (bX W.drew B A n xs):=ag (HX.out.below HB0.out.drew hB);have HUY:Hid (bX W.drew B D m ys):=ag (HY.out.below HB0.out.drew hB)
 go_region_held3 (fun w'=>w'.cell? ⟨w.heap.size,0,none⟩=some (.bool s1)/\w'.cell? ⟨w.heap.size,1,none⟩=some (.slice A n c)/\w'.cell? ⟨w.heap.size+1,0,none⟩=some (.bool s2)/\w'.cell? ⟨w.heap.size+1,1,none⟩=some (.slice D m d)/\Below (w.heap.size+2) W w')
  (first|exact HS.out _ (aX _ _).drew|assumption|exact HS.out _ (by assumption)|exact HS.out _ (dr (dr (by assumption) (by simp) _) (by simp) _))
  (first
   | (go_at_call_of 136 (Value.slice A n c);refine(fx A n c B xs W.drew hnc om HUX.out HTX.out).mono ?_;rintro e w' ⟨rfl,rfl⟩)
   | (go_at_call_of 136 (Value.slice D m d);refine(fx D m d B ys W.drew hmd om HUY.out HTY.out).mono ?_;rintro e w' ⟨rfl,rfl⟩)
   | (go_at_call 194;refine(pD s1 (!s2) A D n m c d B xs ys W.drew sa sb (by show B<=W.heap.size;omega) HUX.out HUY.out HTX.out HTY.out).mono ?_;rintro e w1 ⟨v,rfl,hI,hbn⟩;obtain⟨neg,A2,n2,c2,zs2,rfl,hI2⟩:=hI;have hB1:Below (w.heap.size+2) W w1:=(aX _ W).drew.trans (hbn.mono (by show _<=W.heap.size;omega));have HI:=ag hI2;clear hI2;have hk3:=eF.below (w:=W.drew) HK3.out hbn hg2;obtain⟨e0,e1⟩:=dN hk3;have f0:=hk3.frozen 0;have f1:=hk3.frozen 1;have HK4:=ag hk3;clear hk3 hbn))
 go_wp2;exact bodyPost_ret (v:=.agg #[.bool neg,.slice A2 n2 c2]) (by simp[results,Tryz.results192,go_sem,e0,e1]) rfl
   (cU.cell ⟨neg,A2,n2,c2,zs2,rfl,HI.out⟩ HK4.out (HB0.out.trans (hB1.mono om)) om (by rw[BX];omega))
theorem vM(va:Value)(za:Int)(B:Nat)(w:World)(hB:B<=w.heap.size)(ha:dL w B va za)(sa:nl za.natAbs<=536870912) :
  Calls Tryz.prog 191 #[va] w fun e w'=>e=.returned (.int .i64 za.sign)/\Below w.heap.size w w':=by
 obtain⟨s1,A,n,c,xs,rfl,hnc,hx,tx,rfl⟩:=ha;rw[eC,<-aH hx tx]at sa;have hb0:=(aX w.heap.size w).alloc (ah _) (Obj.cells #[Value.bool s1,Value.slice A n c] 50);have HU:=ag (hx.below hb0 hB);have HL:=ag (aH hx tx);have HT:=ag tx;clear tx;have HX:=ag hx;clear hx;have HB:=ag hb0;clear hb0;by_cases h0:n=0
 ·subst h0;have hv:a9 xs=0:=by rw[List.length_eq_zero_iff.1 HX.out.1];rfl
  have hr:(sg s1 (a9 xs)).sign=0:=by rw[hv,qk];rfl
  have HR:=ag hr;clear hr hv
  go_enter Tryz.func191,Tryz.ntmps191
  go_wp2_with fail
  refine(fx A 0 c B xs _ hnc om HU.out HT.out).mono ?_;rintro e w' ⟨rfl,rfl⟩;go_wp2;go_ret;exact⟨by rw[HR.out];rfl,HB.out⟩
 ·have hv:0<a9 xs:=by
   rcases bO (a9 xs)with h|h
   ·have:=HL.out;rw[h]at this;simp[nl]at this;omega
   ·exact h
  have h1:((n:Int)==0)=false:=by simp;omega
  cases s1
  ·have hr:(sg false (a9 xs)).sign=1:=by simp[sg];omega
   have HR:=ag hr;clear hr hv
   go_enter Tryz.func191,Tryz.ntmps191
   go_wp2_with fail
   refine(fx A n c B xs _ hnc om HU.out HT.out).mono ?_;rintro e w' ⟨rfl,rfl⟩;go_wp2;go_ret;exact⟨by rw[HR.out];rfl,HB.out⟩
  ·have hr:(sg true (a9 xs)).sign=-1:=by simp[sg];omega
   have HR:=ag hr;clear hr hv
   go_enter Tryz.func191,Tryz.ntmps191
   go_wp2_with fail
   refine(fx A n c B xs _ hnc om HU.out HT.out).mono ?_;rintro e w' ⟨rfl,rfl⟩;go_wp2;go_ret;exact⟨by rw[HR.out];rfl,HB.out⟩
theorem E8(z:Int)(w:World)(h1:-9223372036854775808<=z)(h2:z<=9223372036854775807):Calls Tryz.prog 81 #[.int .i64 z] w (cU w z):=by
 have hb0:=(aX w.heap.size w).alloc (ah _) (Obj.cells #[Value.bool false,Value.slice none 0 0] 50);have HB0:=ag hb0;clear hb0;by_cases hz:z<0
 ·go_enter Tryz.func81,Tryz.ntmps81
  go_wp2_with fail
  rw[show IntKind.u64.wrap (-IntKind.u64.wrap z)=((z.natAbs:Nat):Int)from by rw[IntKind.wrap_u64,IntKind.wrap_u64];omega]
  refine(iP z.natAbs _ om).mono ?_;rintro e w1 ⟨A1,k,c1,zs,rfl,hk,hU,hT,hv,hb1⟩;have hk2:k<=2:=by rw[aH hU hT,hv];exact iA.2 om
  have HU:=ag hU;clear hU;have HV:=ag hv;clear hv;have HT:=ag hT;clear hT;have HB1:=ag hb1;clear hb1
  go_wp2_with fail
  refine(fu true A1 k c1 w1.heap.size zs w1 hk om (ah _) HU.out HT.out).mono ?_;rintro e w2 ⟨v,rfl,hI,hb2⟩;obtain⟨neg,A2,n2,c2,zs2,rfl,hI2⟩:=hI;have hsz:w.heap.size+1<=w1.heap.size:=by have:=HB1.out.size;simpa using this
  have hblk:eF w2 w.heap.size 50 #[.bool false,.slice none 0 0]:=(eF.below (w:=w.alloc (Obj.cells #[Value.bool false,Value.slice none 0 0] 50)) (eF.new w 50 _) HB1.out (by simp)).below hb2 om
  obtain⟨hc0,hc1⟩:=dN hblk;have hf0:=hblk.frozen 0;have hf1:=hblk.frozen 1;have HK:=ag hblk;clear hblk;have HI:=ag hI2;clear hI2;have HB2:=ag hb2;clear hb2;go_wp2;exact bodyPost_ret (v:=.agg #[.bool neg,.slice A2 n2 c2]) (by simp[results,Tryz.results81,go_sem,hc0,hc1]) rfl
   (cU.cell ⟨neg,A2,n2,c2,zs2,rfl,HI.out⟩ HK.out ((HB0.out.trans (HB1.out.mono (by simp))).trans (HB2.out.mono om)) (ah _) (by rw[HV.out];simp[sg];omega))
 ·go_enter Tryz.func81,Tryz.ntmps81
  go_wp2_with fail
  obtain⟨v0,rfl⟩:∃v0:Nat,z=(v0:Int):=⟨z.toNat,by omega⟩
  refine(iP v0 _ om).mono ?_;rintro e w1 ⟨A1,k,c1,zs,rfl,hk,hU,hT,hv,hb1⟩;have hk2:k<=2:=by rw[aH hU hT,hv];exact iA.2 om
  have HU:=ag hU;clear hU;have HV:=ag hv;clear hv;have HT:=ag hT;clear hT;have HB1:=ag hb1;clear hb1
  go_wp2_with fail
  refine(fu false A1 k c1 w1.heap.size zs w1 hk om (ah _) HU.out HT.out).mono ?_;rintro e w2 ⟨v,rfl,hI,hb2⟩;obtain⟨neg,A2,n2,c2,zs2,rfl,hI2⟩:=hI;have hsz:w.heap.size+1<=w1.heap.size:=by have:=HB1.out.size;simpa using this
  have hblk:eF w2 w.heap.size 50 #[.bool false,.slice none 0 0]:=(eF.below (w:=w.alloc (Obj.cells #[Value.bool false,Value.slice none 0 0] 50)) (eF.new w 50 _) HB1.out (by simp)).below hb2 om
  obtain⟨hc0,hc1⟩:=dN hblk;have hf0:=hblk.frozen 0;have hf1:=hblk.frozen 1;have HK:=ag hblk;clear hblk;have HI:=ag hI2;clear hI2;have HB2:=ag hb2;clear hb2;go_wp2;exact bodyPost_ret (v:=.agg #[.bool neg,.slice A2 n2 c2]) (by simp[results,Tryz.results81,go_sem,hc0,hc1]) rfl
   (cU.cell ⟨neg,A2,n2,c2,zs2,rfl,HI.out⟩ HK.out ((HB0.out.trans (HB1.out.mono (by simp))).trans (HB2.out.mono om)) (ah _) (by rw[HV.out];simp[sg]))
theorem Cl:Tryz.prog.info? 136=some Tryz.t136:=by kernel_rfl
theorem BF:Tryz.t136.zero=some (.int .u32 0):=by kernel_rfl
theorem B2:Tryz.t136.size=1:=by kernel_rfl
theorem CC:Tryz.t136.bytes=4:=by kernel_rfl
theorem iJ{w w':World}{B:Nat}{row:Option Nat}(h:w.grownBy w' row)(hB:B<=w.heap.size)(hr:∀g,row=some g->B<=g):Below B w w' :=
 ⟨h.os,h.tape,h.output,h.size,fun k hk=>h.block k om (fun e=>by have:=hr _ e.symm;omega)⟩
theorem bX.cells{w:World}{B:Nat}{ad:Addr}{n:Nat}{xs:List Nat}(h:bX w B (some ad) n xs):∀(j:Nat) (u:Value),(xs.map (fun x:Nat=>Value.int .u32 x))[j]? = some u->w.cell? (ad.add j)=some u:=by
 intro j u hj;rw[lP]at hj;have hjl:j<xs.length:=by
  rcases Nat.lt_or_ge j xs.length with hlt|hge
  ·exact hlt
  ·rw[List.getElem?_eq_none hge]at hj;cases hj
 rw[bA hjl]at hj;simp only[Option.map_some,Option.some.injEq]at hj;obtain⟨ad',e,_,hc⟩:=h.2.2 (by rw[<-h.1];omega)
 cases e
 rw[hc j (by rw[<-h.1];exact hjl),<-hj]
 simp[cB,bA hjl]
theorem bX.ofOwn{w:World}{base c n:Nat}{A:Option Addr}{xs:List Nat}(h:w.ownsRow base 136 1 (.slice A n c) n (xs.map (fun x:Nat=>Value.int .u32 x)))(hl:lQ xs):bX w w.heap.size A n xs/\n<=c:=by
 have h1:xs.length=n:=by simpa using h.1
 rcases h.2 with⟨hv,hn⟩|⟨g,cap,cur,hv,_,hg,hnc,_,_,htake⟩
 ·injection hv with e1 e2 e3
  subst hn;exact⟨⟨h1,hl,fun h=>absurd h om⟩,Nat.zero_le _⟩
 ·injection hv with e1 e2 e3
  subst e3;refine⟨⟨h1,hl,fun hn=>⟨_,e1,eF.lt (show eF w g 136 cur from hg),fun j hj=>?_⟩⟩,hnc⟩;subst e1;exact h.cells (g:=g) rfl j _ (by rw[lP,bA om];simp[cB,bA (show j<xs.length by omega)])
theorem rU(A:Option Addr)(n c B:Nat)(xs:List Nat)(w:World)(hm:n<=1073741824)(hB:B<=w.heap.size)(h:bX w B A n xs) :
  Calls Tryz.prog 196 #[.slice A n c] w fun e w'=>∃A' c',e=.returned (.slice A' n c')/\n<=c'/\bX w' w'.heap.size A' n xs/\Below w.heap.size w w':=by
 have HX:=ag h;clear h;have q48:∀(w:World) (a:Option Addr) (n c n' c':Nat),(binOp .eql 48 (.slice a n c) (.slice none n' c')).run Tryz.prog w=.ok (.bool a.isNone) w:=fun w a n c n' c'=>Lib.run_eql_slice_nil w _ _ a n c n' c' Tryz.underlying48
 cases A with
 | none =>
  have h0:n=0:=by
   rcases bO n with h|h
   ·exact h
   ·obtain⟨ad,e,_⟩:=HX.out.2.2 h;cases e
  subst h0
  go_enter Tryz.func196,Tryz.ntmps196
  go_wp2;go_ret;exact⟨none,0,rfl,ah _,⟨HX.out.1,HX.out.2.1,fun h=>absurd h om⟩,aX _ _⟩
 | some ad =>
  go_enter Tryz.func196,Tryz.ntmps196
  go_wp2_with (at_builtin;refine wpList_append_own_at _ rfl _ _ 48 rfl w.heap.size 136 Tryz.t136 (.int .u32 0) 1 4 Tryz.underlying48 Cl BF B2 CC rfl om _ 0 [] rfl (World.ownsRow_lit (e:=136) (size:=1) w #[] 0 (ah _) (by simp[maxLen]) rfl) ad n c (xs.map (fun x:Nat=>Value.int .u32 x)) rfl (by simp[HX.out.1]) (bX.cells (HX.out.below ((aX _ _).alloc hB _) (ah _))) (by intro u hu;simp only[List.mem_map]at hu;obtain⟨x,_,rfl⟩:=hu;rfl) (by simp[maxLen];omega) om (by simp) ?_)
  intro v' w1 hown hgrow hnil hat;obtain⟨g,cap,rfl⟩:∃g cap,v'=.slice (some ⟨g,0,none⟩) n cap:=by
   rcases hown.2 with⟨h,_⟩|⟨g,cap,_,h,_⟩
   ·exact absurd h hnil
   ·exact⟨g,cap,h⟩
  obtain⟨hU,hc⟩:=bX.ofOwn hown HX.out.2.1;have HU:=ag hU;have HB:=ag (((aX w.heap.size w).alloc (ah _) (Obj.cells #[] 136)).trans (iJ hgrow (B:=w.heap.size) (by simp) (by intro g h;cases h;exact ah _)))
  clear hU hown hgrow hnil hat;go_wp2;go_ret;exact⟨_,_,rfl,hc,HU.out,HB.out⟩
theorem oJ(w:World)(a b:Array Value) :
  Below w.heap.size w ((w.alloc (.cells a 50)).alloc (.cells b 50))/\eF ((w.alloc (.cells a 50)).alloc (.cells b 50)) w.heap.size 50 a/\eF ((w.alloc (.cells a 50)).alloc (.cells b 50)) (w.heap.size+1) 50 b:=by
 refine⟨((aX w.heap.size w).alloc (ah _) _).alloc (by simp) _,(eF.new w 50 _).below ((aX _ _).alloc (ah _) _) (by simp),?_⟩
 have h:=eF.new (w.alloc (.cells a 50)) 50 b;simpa using h
theorem vk(w:World)(a b c:Array Value) :
  Below w.heap.size w (((w.alloc (.cells a 50)).alloc (.cells b 50)).alloc (.cells c 50))/\eF (((w.alloc (.cells a 50)).alloc (.cells b 50)).alloc (.cells c 50)) w.heap.size 50 a/\eF (((w.alloc (.cells a 50)).alloc (.cells b 50)).alloc (.cells c 50)) (w.heap.size+1) 50 b/\eF (((w.alloc (.cells a 50)).alloc (.cells b 50)).alloc (.cells c 50)) (w.heap.size+2) 50 c:=by
 obtain⟨h1,h2,h3⟩:=oJ w a b;refine⟨h1.alloc (by simp;omega) _,h2.below ((aX _ _).alloc (ah _) _) (by simp;omega),h3.below ((aX _ _).alloc (ah _) _) (by simp),?_⟩
 have h:=eF.new ((w.alloc (.cells a 50)).alloc (.cells b 50)) 50 c;simpa using h
theorem JD(va:Value)(za:Int)(B:Nat)(w:World)(hB:B<=w.heap.size)(ha:dL w B va za)(sa:nl za.natAbs<=536870912) :
  Calls Tryz.prog 193 #[va] w (cU w (-za)):=by
 obtain⟨s1,A,n,c,xs,rfl,hnc,hx,tx,rfl⟩:=ha;rw[eC,<-aH hx tx]at sa;have HX:=ag hx;clear hx;have HTX:=ag tx;clear tx
 go_enter Tryz.func193,Tryz.ntmps193
 go_wp2;obtain⟨hb0,k1,k3⟩:=oJ w #[Value.bool s1,Value.slice A n c] #[Value.bool false,Value.slice none 0 0];generalize ((w.alloc (Obj.cells #[Value.bool s1,Value.slice A n c] 50)).alloc (Obj.cells #[Value.bool false,Value.slice none 0 0] 50))=W at hb0 k1 k3 ⊢;obtain⟨a0,a1⟩:=dN k1;have HK1:=ag k1;clear k1;have HK3:=ag k3;clear k3;have HB0:=ag hb0;clear hb0;have hg2:w.heap.size+1<W.heap.size:=HK3.out.lt;have HS:=ag (show ∀w1,Below (w.heap.size+1) W w1->(w1.cell? ⟨w.heap.size,0,none⟩=some (.bool s1)/\w1.cell? ⟨w.heap.size,1,none⟩=some (.slice A n c)/\Below (w.heap.size+1) W w1)from
  fun w1 h=>⟨(h.cell (by show w.heap.size<_;omega)).trans a0,(h.cell (by show w.heap.size<_;omega)).trans a1,h⟩)
 have HUX:Hid (bX W.drew B A n xs):=ag (HX.out.below HB0.out.drew hB)
 go_region_held3 (fun w'=>w'.cell? ⟨w.heap.size,0,none⟩=some (.bool s1)/\w'.cell? ⟨w.heap.size,1,none⟩=some (.slice A n c)/\Below (w.heap.size+1) W w')
  (first|exact HS.out _ (aX _ _).drew|assumption|exact HS.out _ (by assumption)|exact HS.out _ (dr (dr (by assumption) (by simp) _) (by simp) _))
  (first
   | (go_at_call_of 136 (Value.slice A n c);refine(fx A n c B xs W.drew hnc om HUX.out HTX.out).mono ?_;rintro e w' ⟨rfl,rfl⟩)
   | (go_at_call 196;refine(rU A n c B xs W.drew om (by show B<=W.heap.size;omega) HUX.out).mono ?_;rintro e w1 ⟨A1,c1,rfl,hc1,hU1,hbn1⟩;have HU1:=ag hU1;clear hU1;have hB1:Below (w.heap.size+1) W w1:=(aX _ W).drew.trans (hbn1.mono (by show _<=W.heap.size;omega));have HK2:=ag (eF.below (w:=W.drew) HK3.out hbn1 hg2);clear hbn1;have hsz:=HK2.out.lt)
   | (go_at_call 134;refine(fu (!s1) A1 n c1 w1.heap.size xs w1 hc1 om (ah _) HU1.out HTX.out).mono ?_;rintro e w2 ⟨v,rfl,hI,hbn⟩;obtain⟨neg,A2,n2,c2,zs2,rfl,hI2⟩:=hI;have hB2:Below (w.heap.size+1) W w2:=hB1.trans (hbn.mono om);have HI:=ag hI2;clear hI2;have hk3:=HK2.out.below hbn hsz;obtain⟨e0,e1⟩:=dN hk3;have f0:=hk3.frozen 0;have f1:=hk3.frozen 1;have HK4:=ag hk3;clear hk3 hbn))
 go_wp2;exact bodyPost_ret (v:=.agg #[.bool neg,.slice A2 n2 c2]) (by simp[results,Tryz.results193,go_sem,e0,e1]) rfl
   (cU.cell ⟨neg,A2,n2,c2,zs2,rfl,HI.out⟩ HK4.out (HB0.out.trans (hB2.mono om)) om (by rw[BX]))
theorem wJ(va:Value)(za:Int)(B:Nat)(w:World)(hB:B<=w.heap.size)(ha:dL w B va za)(sa:nl za.natAbs<=536870912) :
  Calls Tryz.prog 157 #[va] w (cU w (za)):=by
 obtain⟨s1,A,n,c,xs,rfl,hnc,hx,tx,rfl⟩:=ha;rw[eC,<-aH hx tx]at sa;have HX:=ag hx;clear hx;have HTX:=ag tx;clear tx
 go_enter Tryz.func157,Tryz.ntmps157
 go_wp2;obtain⟨hb0,k1,k3⟩:=oJ w #[Value.bool s1,Value.slice A n c] #[Value.bool false,Value.slice none 0 0];generalize ((w.alloc (Obj.cells #[Value.bool s1,Value.slice A n c] 50)).alloc (Obj.cells #[Value.bool false,Value.slice none 0 0] 50))=W at hb0 k1 k3 ⊢;obtain⟨a0,a1⟩:=dN k1;have HK1:=ag k1;clear k1;have HK3:=ag k3;clear k3;have HB0:=ag hb0;clear hb0;have hg2:w.heap.size+1<W.heap.size:=HK3.out.lt;have HS:=ag (show ∀w1,Below (w.heap.size+1) W w1->(w1.cell? ⟨w.heap.size,0,none⟩=some (.bool s1)/\w1.cell? ⟨w.heap.size,1,none⟩=some (.slice A n c)/\Below (w.heap.size+1) W w1)from
  fun w1 h=>⟨(h.cell (by show w.heap.size<_;omega)).trans a0,(h.cell (by show w.heap.size<_;omega)).trans a1,h⟩)
 have HUX:Hid (bX W.drew B A n xs):=ag (HX.out.below HB0.out.drew hB)
 go_region_held3 (fun w'=>w'.cell? ⟨w.heap.size,0,none⟩=some (.bool s1)/\w'.cell? ⟨w.heap.size,1,none⟩=some (.slice A n c)/\Below (w.heap.size+1) W w')
  (first|exact HS.out _ (aX _ _).drew|assumption|exact HS.out _ (by assumption)|exact HS.out _ (dr (dr (by assumption) (by simp) _) (by simp) _))
  (first
   | (go_at_call_of 136 (Value.slice A n c);refine(fx A n c B xs W.drew hnc om HUX.out HTX.out).mono ?_;rintro e w' ⟨rfl,rfl⟩)
   | (go_at_call 196;refine(rU A n c B xs W.drew om (by show B<=W.heap.size;omega) HUX.out).mono ?_;rintro e w1 ⟨A1,c1,rfl,hc1,hU1,hbn1⟩;have HU1:=ag hU1;clear hU1;have hB1:Below (w.heap.size+1) W w1:=(aX _ W).drew.trans (hbn1.mono (by show _<=W.heap.size;omega));have HK2:=ag (eF.below (w:=W.drew) HK3.out hbn1 hg2);clear hbn1;have hsz:=HK2.out.lt)
   | (go_at_call 134;refine(fu s1 A1 n c1 w1.heap.size xs w1 hc1 om (ah _) HU1.out HTX.out).mono ?_;rintro e w2 ⟨v,rfl,hI,hbn⟩;obtain⟨neg,A2,n2,c2,zs2,rfl,hI2⟩:=hI;have hB2:Below (w.heap.size+1) W w2:=hB1.trans (hbn.mono om);have HI:=ag hI2;clear hI2;have hk3:=HK2.out.below hbn hsz;obtain⟨e0,e1⟩:=dN hk3;have f0:=hk3.frozen 0;have f1:=hk3.frozen 1;have HK4:=ag hk3;clear hk3 hbn))
 go_wp2;exact bodyPost_ret (v:=.agg #[.bool neg,.slice A2 n2 c2]) (by simp[results,Tryz.results157,go_sem,e0,e1]) rfl
   (cU.cell ⟨neg,A2,n2,c2,zs2,rfl,HI.out⟩ HK4.out (HB0.out.trans (hB2.mono om)) om (rfl))
def lJ(a b:Int):Int:=if a<b then -1 else if b<a then 1 else 0
theorem lC(s:Bool)(v:Nat):(sg s v).sign=0/\v=0∨(sg s v).sign=1/\s=false/\0<v∨(sg s v).sign=-1/\s=true/\0<v:=by
 rcases bO v with rfl|h
 ·left;cases s<;>simp[sg]
 ·cases s
  ·right;left;simp[sg];omega
  ·right;right;simp[sg];omega
theorem uZ{a b:Int}:(a.sign<b.sign->lJ a b=-1)/\(b.sign<a.sign->lJ a b=1):=by
 have ha:a<0/\a.sign=-1∨a=0/\a.sign=0∨0<a/\a.sign=1:=by
  rcases iu a 0 with h|h|h
  ·exact .inl ⟨h,gY h⟩
  ·exact .inr (.inl ⟨h,by rw[h];rfl⟩)
  ·exact .inr (.inr ⟨h,cK h⟩)
 have hb:b<0/\b.sign=-1∨b=0/\b.sign=0∨0<b/\b.sign=1:=by
  rcases iu b 0 with h|h|h
  ·exact .inl ⟨h,gY h⟩
  ·exact .inr (.inl ⟨h,by rw[h];rfl⟩)
  ·exact .inr (.inr ⟨h,cK h⟩)
 unfold lJ;constructor<;>intro h<;>(repeat' split)<;>omega
theorem xR{s1 s2:Bool}{a b:Nat}(h:(sg s1 a).sign=(sg s2 b).sign):(sg s1 a).sign*jC a b=lJ (sg s1 a) (sg s2 b):=by
 have hc:a<b/\jC a b=-1∨a=b/\jC a b=0∨b<a/\jC a b=1:=by
  rcases dJ a b with h|h|h
  ·exact .inl ⟨h,jB h⟩
  ·exact .inr (.inl ⟨h,kz h⟩)
  ·exact .inr (.inr ⟨h,jk h⟩)
 rcases lC s1 a with⟨h1,rfl⟩|⟨h1,rfl,h3⟩|⟨h1,rfl,h3⟩<;>rcases lC s2 b with⟨h4,rfl⟩|⟨h4,rfl,h5⟩|⟨h4,rfl,h5⟩<;>rw[h1,h4]at h<;>try omega
 ·rw[h1];simp[qk,lJ]
 ·rw[h1];unfold lJ sg;simp;rcases hc with⟨h,e⟩|⟨h,e⟩|⟨h,e⟩<;>rw[e]<;>(repeat' split)<;>omega
 ·rw[h1];unfold lJ sg;simp;rcases hc with⟨h,e⟩|⟨h,e⟩|⟨h,e⟩<;>rw[e]<;>(repeat' split)<;>omega
theorem yR{x:Int}(h1:-9223372036854775808<=x)(h2:x<=9223372036854775807):IntKind.i64.wrap x=x:=by rw[IntKind.wrap_i64];omega
theorem ny(a b:Nat):-1<=jC a b/\jC a b<=1:=by
 rcases dJ a b with h|h|h
 ·rw[jB h];omega
 ·rw[kz h];omega
 ·rw[jk h];omega
theorem JI(va vb:Value)(za zb:Int)(B:Nat)(w:World)(hB:B<=w.heap.size)(ha:dL w B va za)(hb:dL w B vb zb)(sa:nl za.natAbs<=536870912)(sb:nl zb.natAbs<=536870912) :
  Calls Tryz.prog 159 #[va,vb] w fun e w'=>e=.returned (.int .i64 (lJ za zb))/\Below w.heap.size w w':=by
 have hA:=ha;have hBb:=hb;have HS0:=ag sa;have HS1:=ag sb;obtain⟨s1,A,n,c,xs,rfl,hnc,hx,tx,rfl⟩:=ha;obtain⟨s2,D,m,d,ys,rfl,hmd,hy,ty,rfl⟩:=hb;rw[eC,<-aH hx tx]at sa;rw[eC,<-aH hy ty]at sb;have HA:=ag hA;clear hA;have HBb:=ag hBb;clear hBb;have HX:=ag hx;clear hx;have HY:=ag hy;clear hy;have HTX:=ag tx;clear tx;have HTY:=ag ty;clear ty;have HZ:=ag (@uZ (sg s1 (a9 xs)) (sg s2 (a9 ys)));have HZ2:=ag (@xR s1 s2 (a9 xs) (a9 ys));have HP:Hid (-1<=(sg s1 (a9 xs)).sign/\(sg s1 (a9 xs)).sign<=1):=ag (by rcases lC s1 (a9 xs)with h|h|h<;>omega)
 generalize hp:(sg s1 (a9 xs)).sign=p at HZ HZ2 HP;generalize hq:(sg s2 (a9 ys)).sign=q at HZ HZ2;generalize hcz:lJ (sg s1 (a9 xs)) (sg s2 (a9 ys))=r at HZ HZ2 ⊢;have hcr:=ny (a9 xs) (a9 ys);generalize hcm:jC (a9 xs) (a9 ys)=cm at HZ2 hcr;have Hp:=ag hp;clear hp;have Hq:=ag hq;clear hq;have Hcm:=ag hcm;clear hcm;clear hcz
 go_enter Tryz.func159,Tryz.ntmps159
 go_wp2;obtain⟨hb0,k1,k2⟩:=oJ w #[Value.bool s1,Value.slice A n c] #[Value.bool s2,Value.slice D m d];generalize ((w.alloc (Obj.cells #[Value.bool s1,Value.slice A n c] 50)).alloc (Obj.cells #[Value.bool s2,Value.slice D m d] 50))=W at hb0 k1 k2 ⊢;obtain⟨a0,a1⟩:=dN k1;obtain⟨b0,b1⟩:=dN k2;have HB0:=ag hb0;clear hb0;have hg2:w.heap.size+1<W.heap.size:=k2.lt;have hg1:w.heap.size+2<=W.heap.size:=hg2;clear k1 k2;have HS:=ag (show ∀w1,Below (w.heap.size+2) W w1->(w1.cell? ⟨w.heap.size,0,none⟩=some (.bool s1)/\w1.cell? ⟨w.heap.size,1,none⟩=some (.slice A n c)/\w1.cell? ⟨w.heap.size+1,0,none⟩=some (.bool s2)/\w1.cell? ⟨w.heap.size+1,1,none⟩=some (.slice D m d)/\Below (w.heap.size+2) W w1)from
  fun w1 h=>⟨(h.cell (by show w.heap.size<_;omega)).trans a0,(h.cell (by show w.heap.size<_;omega)).trans a1,(h.cell (by show w.heap.size+1<_;omega)).trans b0,(h.cell (by show w.heap.size+1<_;omega)).trans b1,h⟩)
 go_region_held3 (fun w'=>w'.cell? ⟨w.heap.size,0,none⟩=some (.bool s1)/\w'.cell? ⟨w.heap.size,1,none⟩=some (.slice A n c)/\w'.cell? ⟨w.heap.size+1,0,none⟩=some (.bool s2)/\w'.cell? ⟨w.heap.size+1,1,none⟩=some (.slice D m d)/\Below (w.heap.size+2) W w')
  (first|exact HS.out _ (aX _ _).drew|assumption|exact HS.out _ (by assumption))
  (first
   | (go_at_call_of 191 (Value.agg #[Value.bool s1,Value.slice A n c]);refine(vM _ _ B W.drew (by show B<=W.heap.size;omega) (HA.out.below HB0.out.drew hB) HS0.out).mono ?_;rintro e w1 ⟨rfl,hbn⟩;rw[Hp.out];have hB1:Below (w.heap.size+2) W w1:=(aX _ W).drew.trans (hbn.mono hg1);clear hbn)
   | (go_at_call_of 191 (Value.agg #[Value.bool s2,Value.slice D m d]);refine(vM _ _ B w1 (by have:=hB1.size;omega) (HBb.out.below (HB0.out.trans (hB1.mono om)) hB) HS1.out).mono ?_;rintro e w2 ⟨rfl,hbn⟩;rw[Hq.out];have hB2:Below (w.heap.size+2) W w2:=hB1.trans (hbn.mono (by have:=hB1.size;omega));clear hbn hB1))
 have HB2:=ag hB2;obtain⟨c0,c1,c2,c3,_⟩:=HS.out _ hB2;clear hB2 a0 a1 b0 b1;rcases iu p q with hlt|heq|hgt
 ·have HR:=ag (HZ.out.1 hlt);go_wp2;go_ret;exact⟨by rw[HR.out];rfl,HB0.out.trans (HB2.out.mono om)⟩
 ·subst heq;have HR:=ag (HZ2.out rfl);have HUX:Hid (bX w2.drew B A n xs):=ag (HX.out.below (HB0.out.trans (HB2.out.mono om)).drew hB);have HUY:Hid (bX w2.drew B D m ys):=ag (HY.out.below (HB0.out.trans (HB2.out.mono om)).drew hB);have HC:=ag (show ∀w1,Below (w.heap.size+2) W w1->w1.cell? ⟨w.heap.size,1,none⟩=some (.slice A n c)/\w1.cell? ⟨w.heap.size+1,1,none⟩=some (.slice D m d)/\Below (w.heap.size+2) W w1 from fun w1 h=>⟨(HS.out w1 h).2.1,(HS.out w1 h).2.2.2.1,h⟩);have hp3:p=-1∨p=0∨p=1:=by have:=HP.out;omega
  clear HZ HZ2;rcases hp3 with rfl|rfl|rfl
  all_goals
   go_wp2
   go_region_held3 (fun w'=>w'.cell? ⟨w.heap.size,1,none⟩=some (.slice A n c)/\w'.cell? ⟨w.heap.size+1,1,none⟩=some (.slice D m d)/\Below (w.heap.size+2) W w')
    (first|assumption|exact HC.out _ HB2.out.drew|exact HC.out _ (by assumption))
    (first
     | (go_at_call_of 136 (Value.slice A n c);refine(fx A n c B xs w2.drew hnc om HUX.out HTX.out).mono ?_;rintro e w' ⟨rfl,rfl⟩)
     | (go_at_call_of 136 (Value.slice D m d);refine(fx D m d B ys w2.drew hmd om HUY.out HTY.out).mono ?_;rintro e w' ⟨rfl,rfl⟩)
     | (go_at_call 195;refine(fS A D n m c d B xs ys w2.drew om om HUX.out HUY.out HTX.out HTY.out).mono ?_;rintro e w3 ⟨rfl,hst⟩;rw[Hcm.out];have hB3:Below (w.heap.size+2) W w3:=HB2.out.drew.trans (hst.below _);clear hst))
   go_wp2;go_ret;exact⟨by rw[<-HR.out];first|rfl|(simp;first|done|exact yR om om),HB0.out.trans (hB3.mono om)⟩
 ·have HR:=ag (HZ.out.2 hgt);have hn:¬p<q:=by omega
  go_wp2;go_ret;exact⟨by rw[HR.out];rfl,HB0.out.trans (HB2.out.mono om)⟩
def kb(z:Int):Prop:=-9223372036854775808<=z/\z<=9223372036854775807
theorem Fg(va:Value)(za:Int)(B:Nat)(w:World)(hB:B<=w.heap.size)(ha:dL w B va za)(hz:kb za) :
  Calls Tryz.prog 84 #[va] w fun e w'=>e=.returned (.tuple #[.int .i64 za,.bool true])/\Below w.heap.size w w':=by
 obtain⟨s1,A,n,c,xs,rfl,hnc,hx,tx,rfl⟩:=ha;obtain⟨hz1,hz2⟩:=hz;have hn:n<=2:=by
  rw[aH hx tx];refine iA.2 ?_;have:(sg s1 (a9 xs)).natAbs=a9 xs:=eC s1 (a9 xs);omega
 have hb0:=(aX w.heap.size w).alloc (ah _) (Obj.cells #[Value.bool s1,Value.slice A n c] 50);have HU:=ag (hx.below hb0 hB);have HX:=ag hx;clear hx;have HTX:=ag tx;clear tx;have HB:=ag hb0;clear hb0
 cases s1
 ·have hv:(sg false (a9 xs))=(a9 xs:Int):=by simp[sg]
  rw[hv]at hz1 hz2 ⊢;clear hv;generalize hvv:a9 xs=v at hz1 hz2 ⊢;have HV:=ag hvv;clear hvv
  go_enter Tryz.func84,Tryz.ntmps84
  go_wp2_with fail
  refine(fx A n c B xs _ hnc om HU.out HTX.out).mono ?_;rintro e w' ⟨rfl,rfl⟩
  go_wp2_with fail
  refine(mE A n c B xs _ hn HU.out).mono ?_;rintro e w' ⟨rfl,rfl⟩;rw[HV.out];have hw:IntKind.i64.wrap (v:Int)=v:=yR om om;have hl:(v:Int)<9223372036854775808:=by omega
  have Hz1:=ag hz1;clear hz1;have Hz2:=ag hz2;clear hz2;go_wp2;go_ret2;exact⟨rfl,HB.out⟩
 ·have hv:(sg true (a9 xs))=-(a9 xs:Int):=by simp[sg]
  rw[hv]at hz1 hz2 ⊢;clear hv;generalize hvv:a9 xs=v at hz1 hz2 ⊢;have HV:=ag hvv;clear hvv
  go_enter Tryz.func84,Tryz.ntmps84
  go_wp2_with fail
  refine(fx A n c B xs _ hnc om HU.out HTX.out).mono ?_;rintro e w' ⟨rfl,rfl⟩
  go_wp2_with fail
  refine(mE A n c B xs _ hn HU.out).mono ?_;rintro e w' ⟨rfl,rfl⟩;rw[HV.out];have hw:IntKind.i64.wrap (IntKind.u64.wrap (-(v:Int)))=-(v:Int):=by rw[IntKind.wrap_u64,IntKind.wrap_i64];omega
  have hl:(v:Int)<=9223372036854775808:=by omega
  have Hz1:=ag hz1;clear hz1;have Hz2:=ag hz2;clear hz2;go_wp2;go_ret2;exact⟨rfl,HB.out⟩
theorem yl(ps:List Nat)(k v:Nat)(h:k<ps.length):a9 (ps.set k v)+ps.getD k 0*4294967296^k=a9 ps+v*4294967296^k:=by
 induction ps generalizing k with
 | nil=>simp at h
 | cons a l ih =>
  cases k with
  | zero=>simp[a9];omega
  | succ k =>
   have h1:=ih k (by simpa using h)
   simp only[List.set_cons_succ,a9,List.getD_cons_succ,cn]
   grind
theorem lQ.set{l:List Nat}(h:lQ l)(k:Nat){x:Nat}(hx:x<4294967296):lQ (l.set k x):=by
 intro y hy;rcases List.mem_or_eq_of_mem_set hy with h1|h1
 ·exact h y h1
 ·rw[h1];exact hx
structure pF(P0 ps ys:List Nat)(x i j car:Nat):Prop where
 len:ps.length=P0.length
 lim:lQ ps
 rest:∀k,i+j<=k->ps.getD k 0=P0.getD k 0
 eq:a9 ps+car*4294967296^(i+j)=a9 P0+x*a9 (ys.take j)*4294967296^i
 car:car<4294967296
theorem oE{l:List Nat}{k j v:Nat}(h:k≠j):(l.set k v).getD j 0=l.getD j 0:=by
 simp[cB,List.getElem?_set_ne h]
theorem oB{x y:Nat}(hx:x<4294967296)(hy:y<4294967296):x*y<=18446744065119617025:=Nat.mul_le_mul (show x<=4294967295 by omega) (show y<=4294967295 by omega)
theorem pF.step{P0 ps ys:List Nat}{x i j car y p:Nat}(h:pF P0 ps ys x i j car)(hj:j<ys.length)(hij:i+j<ps.length)(hy:ys.getD j 0=y)(hp:ps.getD (i+j) 0=p)(x4:x<4294967296)(y4:y<4294967296)(p4:p<4294967296) :
  pF P0 (ps.set (i+j) ((car+(x*y+p))%4294967296)) ys x i (j+1) ((car+(x*y+p))/4294967296):=by
 have hxy:=oB x4 y4;have hc:=h.car;refine⟨by simp[h.len],h.lim.set _ (Nat.mod_lt _ om),fun k hk=>?_,?_,?_⟩
 ·rw[oE om];exact h.rest k om
 ·have h1:=yl ps (i+j) ((car+(x*y+p))%4294967296) hij;rw[de ys j hj,hy,show i+(j+1)=(i+j)+1 from by omega,cn]
  rw[hp]at h1;have h2:=h.eq;have h3:=Nat.div_add_mod (car+(x*y+p)) 4294967296;rw[Nat.pow_add]at h1 h2 ⊢;generalize (car+(x*y+p))%4294967296=lo at *;generalize (car+(x*y+p))/4294967296=hi at *;generalize (4294967296:Nat)^i=bi at *;generalize (4294967296:Nat)^j=bj at *;generalize a9 (ps.set (i+j) lo)=vs' at *;generalize a9 ps=vs at *;generalize a9 P0=v0 at *;generalize a9 (ys.take j)=vt at *
  grind
 ·omega
theorem pF.last{P0 ps ys:List Nat}{x i car m:Nat}(h:pF P0 ps ys x i m car)(hm:ys.length=m)(hij:i+m<ps.length)(h0:P0.getD (i+m) 0=0) :
  a9 (ps.set (i+m) car)=a9 P0+x*a9 ys*4294967296^i:=by
 have h1:=yl ps (i+m) car hij;rw[h.rest _ (ah _),h0]at h1;have h2:=h.eq;rw[bF om]at h2;omega
structure iW(ps xs ys:List Nat)(i:Nat):Prop where
 len:ps.length=xs.length+ys.length
 lim:lQ ps
 rest:∀k,i+ys.length<=k->ps.getD k 0=0
 eq:a9 ps=a9 (xs.take i)*a9 ys
theorem iW.zero{ps xs ys:List Nat}{i:Nat}(h:iW ps xs ys i)(hi:i<xs.length)(h0:xs.getD i 0=0):iW ps xs ys (i+1) :=
 ⟨h.len,h.lim,fun k hk=>h.rest k om,by rw[de xs i hi,h0,h.eq];simp⟩
theorem iW.start{ps xs ys:List Nat}{i x:Nat}(h:iW ps xs ys i):pF ps ps ys x i 0 0 :=
 ⟨rfl,h.lim,fun _ _=>rfl,by simp[a9],by omega⟩
theorem iW.next{P0 ps xs ys:List Nat}{i x car m:Nat}(h:iW P0 xs ys i)(k:pF P0 ps ys x i m car)(hm:ys.length=m)(hi:i<xs.length)(hx:xs.getD i 0=x):iW (ps.set (i+m) car) xs ys (i+1):=by
 have hl:ps.length=xs.length+m:=by rw[k.len,h.len,hm]
 have h1:=k.last hm om (h.rest _ om);refine⟨by simp[hl,hm],k.lim.set _ k.car,fun j hj=>?_,?_⟩
 ·rw[oE om,k.rest j om];exact h.rest j om
 ·rw[h1,h.eq,de xs i hi,hx];grind
theorem iW.init(xs ys:List Nat)(n:Nat)(h:n=xs.length+ys.length):iW (bL n 0) xs ys 0 :=
 ⟨by simp[h],by intro x hx;rw[(List.mem_replicate.1 hx).2];omega,fun k _=>by simp[cB,List.getElem?_replicate];split<;>rfl,by
  have:a9 (bL n 0)=0:=by
   clear h
   induction n with
   | zero=>rfl
   | succ n ih=>simp[List.replicate_succ,a9,ih]
  rw[this];simp[a9]⟩
def fK(w wr:World)(ps:List Nat):Prop:=Below w.heap.size w wr/\eF wr w.heap.size 136 (db ps 0)
theorem wy(zs:List Nat)(k x:Nat):(db zs 0).setIfInBounds k (.int .u32 x)=db (zs.set k x) 0:=by
 simp[db,List.map_set]
theorem fK.put{w wr:World}{ps:List Nat}(h:fK w wr ps)(k x:Nat):fK w (wr.setCell ⟨w.heap.size,k,none⟩ (.int .u32 x)) (ps.set k x):=by
 refine⟨h.1.setCell (ah _) _,?_⟩;have:=h.2.set_ k (.int .u32 x)
 rwa [wy]at this
theorem fK.at_{w wr:World}{ps:List Nat}(h:fK w wr ps)(k:Nat)(hk:k<ps.length):wr.cell? ⟨w.heap.size,k,none⟩=some (.int .u32 (ps.getD k 0))/\wr.frozen? ⟨w.heap.size,k,none⟩=false :=
 ⟨(h.2.cell k).trans (by rw[ml ps 0 k om];simp),h.2.frozen k⟩
theorem fK.start(w:World)(n:Nat):fK w (w.alloc (.cells (db [] n) 136)) (bL n 0) :=
 ⟨(aX _ _).alloc (ah _) _,by simpa [db]using eF.new w 136 (db [] n)⟩
theorem Ce(A B:Option Addr)(n m c d L:Nat)(xs ys:List Nat)(w:World)(hn:n<=268435456)(hm:m<=268435456)(hnm:¬(n<=1/\m<=1))(hL:L<=w.heap.size)(hx:bX w L A n xs)(hy:bX w L B m ys) :
  Calls Tryz.prog 140 #[.slice A n c,.slice B m d] w (nG w (a9 xs*a9 ys)):=by
 have hmk:=Ch (n+m) om;rw[Int.natCast_add]at hmk;have HX:=ag hx;clear hx;have HY:=ag hy;clear hy;have h12:1<n∨n<=1/\1<m:=by omega
 clear hnm;rcases h12 with h1|⟨h1,h2⟩
 ·have h1i:¬(n:Int)<=1:=by omega
  have h1j:decide ((n:Int)<=1)=false:=by simpa using h1i
  go_enter Tryz.func140,Tryz.ntmps140
  go_wp2;clear hmk
  go_loopw [34] (fun iv wr=>∃(i:Nat) (ps:List Nat),i<=n/\iv=.int .i64 i/\Hid (fK w wr ps)/\Hid (iW ps xs ys i)) (fun iv _=>n-(intOf iv).toNat)
  case atStart=>exact⟨0,_,by omega,rfl,ag (fK.start w (n+m)),ag (iW.init xs ys (n+m) (by rw[HX.out.1,HY.out.1]))⟩
  case round =>
   obtain⟨i,ps,hi,rfl,HF,HS⟩:=hrel;by_cases hin:i<n
   ·obtain⟨ad,x,rfl,hab,hxx,hx4,hcx⟩:=(HX.out.below HF.out.1 hL).at_ (k:=i) om;have HXX:=ag hxx;clear hxx;have hin':(i:Int)<n:=by omega
    have hi0:(0:Int)<=i:=by omega
    by_cases hx0:x=0
    ·subst hx0;go_wp2
     go_roundw
     case rel=>exact⟨i+1,ps,by omega,by go_num,HF,ag (HS.out.zero (by rw[HX.out.1];exact hin) HXX.out)⟩
     case measure=>simp[intOf];omega
    ·have hx0':((x:Int)==0)=false:=by simp;omega
     go_wp2;rw[show i+m+1-i=m+1 from by omega]
     go_loopw [9,51] (fun cv jv wr'=>∃(j car:Nat) (qs:List Nat),j<=m/\jv=.int .i64 j/\cv=.int .u64 car/\car<4294967296/\Hid (fK w wr' qs)/\Hid (pF ps qs ys x i j car)) (fun _ jv _=>m-(intOf jv).toNat)
     case atStart=>exact⟨0,0,ps,by omega,rfl,rfl,by omega,HF,ag HS.out.start⟩
     case round =>
      clear HF hcx;obtain⟨j,car,qs,hj,rfl,rfl,hcar,HG,HI⟩:=hrel;have hql:qs.length=n+m:=by rw[HI.out.len,HS.out.len,HX.out.1,HY.out.1]
      by_cases hjm:j<m
      ·obtain⟨bd,y,rfl,hbb,hyy,hy4,hcy⟩:=(HY.out.below HG.out.1 hL).at_ (k:=j) om;have HYY:=ag hyy;clear hyy;obtain⟨hcp,hfp⟩:=HG.out.at_ (i+j) om;have hp4:=HI.out.lim.getD (i+j);generalize hpp:qs.getD (i+j) 0=p at hcp hp4;have HPP:=ag hpp;clear hpp;obtain⟨z,hz,hz4⟩:∃z:Nat,x*y=z/\z<=18446744065119617025:=⟨_,rfl,oB hx4 hy4⟩;have hzi:(x:Int)*(y:Int)=(z:Int):=by rw[<-hz];simp
       have HZ:=ag hz;clear hz;have hjm':(j:Int)<m:=by omega
       have hjm2:(j:Int)<m+1:=by omega
       have hj0:(0:Int)<=j:=by omega
       go_wp2
       go_roundw
       case rel =>
        have h5:=HI.out.step (by rw[HY.out.1];exact hjm) om HYY.out HPP.out hx4 hy4 hp4
        have h6:=HG.out.put (i+j) ((car+(x*y+p))%4294967296);rw[HZ.out]at h5 h6;exact⟨j+1,(car+(z+p))/4294967296,_,by omega,by go_num,by go_num,by omega,ag (by simpa using h6),ag h5⟩
       case measure=>simp[intOf];omega
      ·obtain rfl:j=m:=by omega
       obtain⟨hcp,hfp⟩:=HG.out.at_ (i+j) om;have HN:=ag (HS.out.next HI.out HY.out.1 (by rw[HX.out.1];exact hin) HXX.out)
       have HP:=ag (HG.out.put (i+j) car);have hjm2:(j:Int)<j+1:=by omega
       have hj0:(0:Int)<=j:=by omega
       go_wp2
       go_roundw
       case rel=>exact⟨i+1,_,by omega,by go_num,ag (by simpa using HP.out),HN⟩
       case measure=>simp[intOf];omega
   ·obtain rfl:i=n:=by omega
    go_wp2_with fail
    have hl:=HS.out.len;rw[HX.out.1,HY.out.1]at hl;have hU:=bX.ofBlk HF.out.2 HS.out.lim HF.out.2.lt rfl;rw[hl]at hU;have hv:=HS.out.eq;rw[bF (by rw[HX.out.1];exact ah _)]at hv
    have HB:=ag HF.out.1;have HU:=ag hU;clear hU;have HV:=ag hv;clear hv;refine(kF _ _ _ _ _ _ (ah _) om HU.out).mono ?_;rintro e w' ⟨⟨r,hr,rfl,hU2,hT,hv2⟩,rfl⟩;have HU2:=ag hU2;clear hU2;have HV2:=ag hv2;clear hv2;go_wp2;go_ret;exact⟨_,_,_,_,rfl,hr,HU2.out,hT,HV2.out.trans HV.out,HB.out⟩
 ·have h1i:(n:Int)<=1:=by omega
  have h1j:decide ((n:Int)<=1)=true:=by simpa using h1i
  have h2i:¬(m:Int)<=1:=by omega
  have h2j:decide ((m:Int)<=1)=false:=by simpa using h2i
  go_enter Tryz.func140,Tryz.ntmps140
  go_wp2;clear hmk
  go_loopw [34] (fun iv wr=>∃(i:Nat) (ps:List Nat),i<=n/\iv=.int .i64 i/\Hid (fK w wr ps)/\Hid (iW ps xs ys i)) (fun iv _=>n-(intOf iv).toNat)
  case atStart=>exact⟨0,_,by omega,rfl,ag (fK.start w (n+m)),ag (iW.init xs ys (n+m) (by rw[HX.out.1,HY.out.1]))⟩
  case round =>
   obtain⟨i,ps,hi,rfl,HF,HS⟩:=hrel;by_cases hin:i<n
   ·obtain⟨ad,x,rfl,hab,hxx,hx4,hcx⟩:=(HX.out.below HF.out.1 hL).at_ (k:=i) om;have HXX:=ag hxx;clear hxx;have hin':(i:Int)<n:=by omega
    have hi0:(0:Int)<=i:=by omega
    by_cases hx0:x=0
    ·subst hx0;go_wp2
     go_roundw
     case rel=>exact⟨i+1,ps,by omega,by go_num,HF,ag (HS.out.zero (by rw[HX.out.1];exact hin) HXX.out)⟩
     case measure=>simp[intOf];omega
    ·have hx0':((x:Int)==0)=false:=by simp;omega
     go_wp2;rw[show i+m+1-i=m+1 from by omega]
     go_loopw [9,51] (fun cv jv wr'=>∃(j car:Nat) (qs:List Nat),j<=m/\jv=.int .i64 j/\cv=.int .u64 car/\car<4294967296/\Hid (fK w wr' qs)/\Hid (pF ps qs ys x i j car)) (fun _ jv _=>m-(intOf jv).toNat)
     case atStart=>exact⟨0,0,ps,by omega,rfl,rfl,by omega,HF,ag HS.out.start⟩
     case round =>
      clear HF hcx;obtain⟨j,car,qs,hj,rfl,rfl,hcar,HG,HI⟩:=hrel;have hql:qs.length=n+m:=by rw[HI.out.len,HS.out.len,HX.out.1,HY.out.1]
      by_cases hjm:j<m
      ·obtain⟨bd,y,rfl,hbb,hyy,hy4,hcy⟩:=(HY.out.below HG.out.1 hL).at_ (k:=j) om;have HYY:=ag hyy;clear hyy;obtain⟨hcp,hfp⟩:=HG.out.at_ (i+j) om;have hp4:=HI.out.lim.getD (i+j);generalize hpp:qs.getD (i+j) 0=p at hcp hp4;have HPP:=ag hpp;clear hpp;obtain⟨z,hz,hz4⟩:∃z:Nat,x*y=z/\z<=18446744065119617025:=⟨_,rfl,oB hx4 hy4⟩;have hzi:(x:Int)*(y:Int)=(z:Int):=by rw[<-hz];simp
       have HZ:=ag hz;clear hz;have hjm':(j:Int)<m:=by omega
       have hjm2:(j:Int)<m+1:=by omega
       have hj0:(0:Int)<=j:=by omega
       go_wp2
       go_roundw
       case rel =>
        have h5:=HI.out.step (by rw[HY.out.1];exact hjm) om HYY.out HPP.out hx4 hy4 hp4
        have h6:=HG.out.put (i+j) ((car+(x*y+p))%4294967296);rw[HZ.out]at h5 h6;exact⟨j+1,(car+(z+p))/4294967296,_,by omega,by go_num,by go_num,by omega,ag (by simpa using h6),ag h5⟩
       case measure=>simp[intOf];omega
      ·obtain rfl:j=m:=by omega
       obtain⟨hcp,hfp⟩:=HG.out.at_ (i+j) om;have HN:=ag (HS.out.next HI.out HY.out.1 (by rw[HX.out.1];exact hin) HXX.out)
       have HP:=ag (HG.out.put (i+j) car);have hjm2:(j:Int)<j+1:=by omega
       have hj0:(0:Int)<=j:=by omega
       go_wp2
       go_roundw
       case rel=>exact⟨i+1,_,by omega,by go_num,ag (by simpa using HP.out),HN⟩
       case measure=>simp[intOf];omega
   ·obtain rfl:i=n:=by omega
    go_wp2_with fail
    have hl:=HS.out.len;rw[HX.out.1,HY.out.1]at hl;have hU:=bX.ofBlk HF.out.2 HS.out.lim HF.out.2.lt rfl;rw[hl]at hU;have hv:=HS.out.eq;rw[bF (by rw[HX.out.1];exact ah _)]at hv
    have HB:=ag HF.out.1;have HU:=ag hU;clear hU;have HV:=ag hv;clear hv;refine(kF _ _ _ _ _ _ (ah _) om HU.out).mono ?_;rintro e w' ⟨⟨r,hr,rfl,hU2,hT,hv2⟩,rfl⟩;have HU2:=ag hU2;clear hU2;have HV2:=ag hv2;clear hv2;go_wp2;go_ret;exact⟨_,_,_,_,rfl,hr,HU2.out,hT,HV2.out.trans HV.out,HB.out⟩
theorem yL(A B:Option Addr)(n m c d L:Nat)(xs ys:List Nat)(w:World)(hn:n<=1)(hm:m<=1)(hx:bX w L A n xs)(hy:bX w L B m ys) :
  Calls Tryz.prog 140 #[.slice A n c,.slice B m d] w (nG w (a9 xs*a9 ys)):=by
 have hx4:a9 xs<4294967296:=by
  have h:=ib hx.2.1;rw[hx.1]at h;have h2:(4294967296:Nat)^n<=4294967296^1:=ca om hn;omega
 have hy4:a9 ys<4294967296:=by
  have h:=ib hy.2.1;rw[hy.1]at h;have h2:(4294967296:Nat)^m<=4294967296^1:=ca om hm;omega
 have HX:=ag hx;clear hx;have HY:=ag hy;clear hy;have h1i:(n:Int)<=1:=by omega
 have h2i:(m:Int)<=1:=by omega
 obtain⟨z,hz,hz4⟩:∃z:Nat,a9 xs*a9 ys=z/\z<=18446744065119617025:=⟨_,rfl,oB hx4 hy4⟩;generalize hvx:a9 xs=x at hz hx4;generalize hvy:a9 ys=y at hz hy4;have hzi:(x:Int)*(y:Int)=(z:Int):=by rw[<-hz];simp
 have HVX:=ag hvx;clear hvx;have HVY:=ag hvy;clear hvy;rw[hz];have HZ:=ag hz;clear hz
 go_enter Tryz.func140,Tryz.ntmps140
 go_wp2_with fail
 refine(mE A n c L xs _ om HX.out).mono ?_;rintro e w' ⟨rfl,rfl⟩;rw[HVX.out]
 go_wp2_with fail
 refine(mE B m d L ys _ om HY.out).mono ?_;rintro e w' ⟨rfl,rfl⟩;rw[HVY.out]
 go_wp2_with fail
 refine(iP z _ om).mono ?_;rintro e w1 ⟨A1,k,c1,zs,rfl,hk,hU,hT,hv,hb1⟩;have HU:=ag hU;clear hU;have HV:=ag hv;clear hv;have HB:=ag hb1;clear hb1;go_wp2;go_ret;exact⟨_,_,_,_,rfl,hk,HU.out,hT,HV.out,HB.out⟩
theorem Cf(A B:Option Addr)(n m c d L:Nat)(xs ys:List Nat)(w:World)(hn:n<=268435456)(hm:m<=268435456)(hL:L<=w.heap.size)(hx:bX w L A n xs)(hy:bX w L B m ys) :
  Calls Tryz.prog 140 #[.slice A n c,.slice B m d] w (nG w (a9 xs*a9 ys)):=by
 by_cases h:n<=1/\m<=1
 ·exact yL A B n m c d L xs ys w h.1 h.2 hx hy
 ·exact Ce A B n m c d L xs ys w hn hm h hL hx hy
theorem FW(s1 s2:Bool)(a b:Nat):sg (s1 != s2) (a*b)=sg s1 a*sg s2 b:=by
 cases s1<;>cases s2<;>simp[sg]<;>grind
theorem JE(va vb:Value)(za zb:Int)(B:Nat)(w:World)(hB:B<=w.heap.size)(ha:dL w B va za)(hb:dL w B vb zb)(sa:nl za.natAbs<=268435456)(sb:nl zb.natAbs<=268435456) :
  Calls Tryz.prog 83 #[va,vb] w (cU w (za*zb)):=by
 obtain⟨s1,A,n,c,xs,rfl,hnc,hx,tx,rfl⟩:=ha;obtain⟨s2,D,m,d,ys,rfl,hmd,hy,ty,rfl⟩:=hb;rw[eC,<-aH hx tx]at sa;rw[eC,<-aH hy ty]at sb;have HX:=ag hx;clear hx;have HY:=ag hy;clear hy;have HTX:=ag tx;clear tx;have HTY:=ag ty;clear ty
 go_enter Tryz.func83,Tryz.ntmps83
 go_wp2;obtain⟨hb0,k1,k2,k3⟩:=vk w #[Value.bool s1,Value.slice A n c] #[Value.bool s2,Value.slice D m d] #[Value.bool false,Value.slice none 0 0];generalize (((w.alloc (Obj.cells #[Value.bool s1,Value.slice A n c] 50)).alloc (Obj.cells #[Value.bool s2,Value.slice D m d] 50)).alloc (Obj.cells #[Value.bool false,Value.slice none 0 0] 50))=W at hb0 k1 k2 k3 ⊢;obtain⟨a0,a1⟩:=dN k1;obtain⟨b0,b1⟩:=dN k2;have HK3:=ag k3;clear k3 k1 k2;have HB0:=ag hb0;clear hb0;have hg2:w.heap.size+2<W.heap.size:=HK3.out.lt;have HS:=ag (show ∀w1,Below (w.heap.size+2) W w1->(w1.cell? ⟨w.heap.size,0,none⟩=some (.bool s1)/\w1.cell? ⟨w.heap.size,1,none⟩=some (.slice A n c)/\w1.cell? ⟨w.heap.size+1,0,none⟩=some (.bool s2)/\w1.cell? ⟨w.heap.size+1,1,none⟩=some (.slice D m d)/\Below (w.heap.size+2) W w1)from
  fun w1 h=>⟨(h.cell (by show w.heap.size<_;omega)).trans a0,(h.cell (by show w.heap.size<_;omega)).trans a1,(h.cell (by show w.heap.size+1<_;omega)).trans b0,(h.cell (by show w.heap.size+1<_;omega)).trans b1,h⟩)
 have HUX:Hid (bX W.drew B A n xs):=ag (HX.out.below HB0.out.drew hB);have HUY:Hid (bX W.drew B D m ys):=ag (HY.out.below HB0.out.drew hB);have hkl:∀(k:Nat) (zs:List Nat) (w':World) (Bb:Nat) (A':Option Addr),bX w' Bb A' k zs->ob zs->a9 zs=a9 xs*a9 ys->k<=536870912:=by
  intro k zs w' Bb A' hu ht hv;have h1:=aH hu ht;have h2:=KK (a9 xs) (a9 ys);rw[<-aH HX.out HTX.out,<-aH HY.out HTY.out]at h2;rw[hv]at h1;omega
 have HKL:=ag hkl;clear hkl
 go_region_held3 (fun w'=>w'.cell? ⟨w.heap.size,0,none⟩=some (.bool s1)/\w'.cell? ⟨w.heap.size,1,none⟩=some (.slice A n c)/\w'.cell? ⟨w.heap.size+1,0,none⟩=some (.bool s2)/\w'.cell? ⟨w.heap.size+1,1,none⟩=some (.slice D m d)/\Below (w.heap.size+2) W w')
  (first|exact HS.out _ (aX _ _).drew|assumption|exact HS.out _ (by assumption)|exact HS.out _ (dr (dr (by assumption) (by simp) _) (by simp) _))
  (first
   | (go_at_call_of 136 (Value.slice A n c);refine(fx A n c B xs W.drew hnc om HUX.out HTX.out).mono ?_;rintro e w' ⟨rfl,rfl⟩)
   | (go_at_call_of 136 (Value.slice D m d);refine(fx D m d B ys W.drew hmd om HUY.out HTY.out).mono ?_;rintro e w' ⟨rfl,rfl⟩)
   | (go_at_call 140;refine(Cf A D n m c d B xs ys W.drew sa sb (by show B<=W.heap.size;omega) HUX.out HUY.out).mono ?_;rintro e w1 ⟨A1,k,c1,zs,rfl,hk1,hU1,hT1,hv1,hbn1⟩;have hk2:=HKL.out _ _ _ _ _ hU1 hT1 hv1;have HU1:=ag hU1;clear hU1;have HT1:=ag hT1;clear hT1;have HV1:=ag hv1;clear hv1;have hB1:Below (w.heap.size+2) W w1:=(aX _ W).drew.trans (hbn1.mono (by show _<=W.heap.size;omega));have HK2:=ag (eF.below (w:=W.drew) HK3.out hbn1 hg2);clear hbn1;have hsz:=HK2.out.lt)
   | (go_at_call 134;refine(fu (s1 != s2) A1 k c1 w1.heap.size zs w1 hk1 om (ah _) HU1.out HT1.out).mono ?_;rintro e w2 ⟨v,rfl,hI,hbn⟩;obtain⟨neg,A2,n2,c2,zs2,rfl,hI2⟩:=hI;have hB2:Below (w.heap.size+2) W w2:=hB1.trans (hbn.mono om);have HI:=ag hI2;clear hI2;have hk3:=HK2.out.below hbn hsz;obtain⟨e0,e1⟩:=dN hk3;have f0:=hk3.frozen 0;have f1:=hk3.frozen 1;have HK4:=ag hk3;clear hk3 hbn))
 go_wp2;exact bodyPost_ret (v:=.agg #[.bool neg,.slice A2 n2 c2]) (by simp[results,Tryz.results83,go_sem,e0,e1]) rfl
   (cU.cell ⟨neg,A2,n2,c2,zs2,rfl,HI.out⟩ HK4.out (HB0.out.trans (hB2.mono om)) om (by rw[HV1.out,FW]))
end Go.Proofs.YtdobfmlmenaajaaGreatDoor
