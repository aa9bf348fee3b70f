/-
  Lemmas for NeighbourKeeps.
-/
import Derived.Test.YtdobfmlmenaajaaGreatDoorL02
import Derived.Lib.BitFns
import Derived.Lib.Strings
import Derived.Lib.Slices
import Derived.Lib.Small
import Derived.Lib.Walk
namespace Go.Proofs.YtdobfmlmenaajaaGreatDoor
open Go.RowKit Tryz
open Below renaming refl→bq
open _root_.Bool renaming false_eq_true→bQ,not_false→qA,not_true→Ae
open _root_.Int renaming natCast_mul→bO,natCast_nonneg→di,toNat_natCast→eN,mul_neg→oL
open Lib renaming hid→ab,bitLen→iP
open _root_.Nat renaming le_refl→af,lt_or_ge→az,eq_zero_or_pos→bC,pow_succ→bM,pow_le_pow_right→cf,mod_lt→dp,div_add_mod→dz,div_le_self→jc
open Tryz renaming prog→ah
open Value renaming slice→aj,bool→ao,int→c8
set_option maxHeartbeats 6400000
set_option maxRecDepth 4096
set_option linter.all false
variable{cs:Array Value}{t:TypeId}{u:Value}{w:World}
def mt(w:World)(u v:Nat)(e:Ending)(w':World):Prop :=
 ∃(A:Option Addr) (n c:Nat) (xs:List Nat) (D:Option Addr) (m d:Nat) (ys:List Nat),e=.returned (.tuple #[.slice A n c,.slice D m d])/\n<=c/\m<=d /\
  cj w' w'.heap.size A n xs/\cj w' w'.heap.size D m ys/\nS xs/\nS ys/\aY xs=u/\aY ys=v/\Below w.heap.size w w'
theorem Mj(w:World)(B:Nat)(A:Option Addr):cj w B A 0 []:=⟨rfl,by simp[mp],fun h=>absurd h om⟩
theorem xe:nS []:=by intro x a;simp at a
theorem CI(A B:Option Addr)(n c d L:Nat)(xs ys:List Nat)(w:World)(hn:n<=536870912)(h2:2<n)(hL:L<=w.heap.size)(hx:cj w L A n xs)(hy:cj w L B 1 ys)(tx:nS xs)(ty:nS ys)
  (h0:0<aY ys) (hge:¬aY xs<aY ys) :
  Calls ah 137 #[.slice A n c,.slice B 1 d] w (mt w (aY xs/aY ys) (aY xs%aY ys)):=by
 have hc:0<=kt (aY xs) (aY ys):=by
  rcases az (aY ys) (aY xs)with h|h
  ·rw[jO h];omega
  ·rw[kM om];omega
 obtain⟨ad,rfl,hadb,_⟩:=hx.2.2 om;obtain⟨bd,rfl,hbdb,hcb⟩:=hy.2.2 om;have hv1:aY ys=ys.getD 0 0:=by
  have:=hy.1
  match ys,this with
  | [y],_=>simp[aY]
 have hy4:=hy.2.1.getD 0;have hcb0:=hcb 0 om;rw[<-hv1]at hy4 hcb0;have HX:=ab hx;clear hx;have HY:=ab hy;clear hy;have HTX:=ab tx;clear tx;have HTY:=ab ty;clear ty;have HV1:=ab hv1;clear hv1;have HCB:=ab hcb0;clear hcb0;clear hcb hge;generalize hcm:kt (aY xs) (aY ys)=cm at hc;have Hcm:=ab hcm;clear hcm;generalize hvy:aY ys=y at h0 hy4 HCB ⊢;have HVY:=ab hvy;clear hvy;have hcn:¬cm<0:=om
 have hn2:¬(n:Int)<=2:=om
 have hn2':decide ((n:Int)<=2)=false:=by simpa using hn2
 go_enter func137,ntmps137
 go_wp2_with fail
 refine(gD (some ad) (some bd) n 1 c d L xs ys w om om HX.out HY.out HTX.out HTY.out).mono ?_;rintro e w1 ⟨rfl,hst⟩;rw[Hcm.out];have HB1:=ab (hst.below w.heap.size);have hcell:w1.cell? (bd.add 0)=some (.int .u32 y):=(hst.cell _).trans HCB.out;clear hst;have HCC:=ab hcell;clear hcell;have HY1:=ab (HY.out.below HB1.out hL)
 go_wp2_with fail
 refine(Gm ad n c L xs w1 om om (by have:=HB1.out.size;omega) (HX.out.below HB1.out hL)).mono ?_
 rintro e w2 ⟨g,c',rfl,hc',hla⟩;have hcell2:w2.cell? (bd.add 0)=some (.int .u32 y):=by
  obtain⟨ad',e1,_,h5⟩:=(HY1.out.below (hla.1) (by have:=HB1.out.size;omega)).2.2 om
  cases e1
  have:=h5 0 om;rw[this];congr 2;have h6:=HY1.out.2.2 om;obtain⟨ad'',e2,_,h7⟩:=h6
  cases e2
  have h8:=h7 0 om;rw[HCC.out]at h8;cases h8;rfl
 have HLA:=ab hla;clear hla;have hb0:bd.add 0=bd:=by unfold Addr.add;simp
 rw[hb0]at hcell2
 go_wp2_with fail
 refine(tU w1.heap.size w1 w2 g n c' y xs om h0 hy4 HLA.out).mono ?_;rintro e w3 ⟨ps,rfl,hla3,hvp⟩;have HLA3:=ab hla3;clear hla3;have HVP:=ab hvp;clear hvp;have hr4:aY xs%y<4294967296:=Nat.lt_trans (dp _ h0) hy4;generalize hrr:aY xs%y=r at hr4 ⊢;have HRR:=ab hrr;clear hrr
 go_wp2_with fail
 refine(jW _ _ _ _ _ _ hc' om HLA3.out.u32).mono ?_;rintro e w' ⟨⟨k,hk,rfl,hU2,hT,hv2⟩,rfl⟩;have HU2:=ab hU2;clear hU2;have HT:=ab hT;clear hT;have HV2:=ab hv2;clear hv2
 go_wp2_with fail
 refine(jM r w3 om).mono ?_;rintro e w4 ⟨A2,k2,c2,rs,rfl,hk2,hU3,hT3,hv3,hb3⟩;have HU3:=ab hU3;clear hU3;have HT3:=ab hT3;clear hT3;have HV3:=ab hv3;clear hv3;have HB3:=ab hb3;clear hb3;go_wp2;go_ret2;exact⟨_,k,c',_,A2,k2,c2,rs,rfl,om,hk2,(HU2.out.below HB3.out (af _)).more HB3.out.size,HU3.out,HT.out,HT3.out,HV2.out.trans HVP.out,HV3.out.trans HRR.out.symm,(HB1.out.trans (HLA3.out.1.mono HB1.out.size)).trans (HB3.out.mono (Nat.le_trans HB1.out.size HLA3.out.1.size))⟩
theorem xK(A B:Option Addr)(n m c d L:Nat)(xs ys:List Nat)(w:World)(hn:n<=536870912)(hm:m<=536870912)(hL:L<=w.heap.size)(hx:cj w L A n xs)(hy:cj w L B m ys)(tx:nS xs)(ty:nS ys)
  (h0:0<aY ys) (hs:aY xs<aY ys∨n<=2∨m<=1) :
  Calls ah 137 #[.slice A n c,.slice B m d] w (mt w (aY xs/aY ys) (aY xs%aY ys)):=by
 by_cases hlt:aY xs<aY ys
 ·have hq:=Nat.div_eq_of_lt hlt;have hr:=Nat.mod_eq_of_lt hlt;rw[hq,hr];have HX:=ab hx;clear hx;have HY:=ab hy;clear hy;have HTX:=ab tx;clear tx;have HTY:=ab ty;clear ty;have Hc:=ab (kL hlt);clear hq hr hlt h0 hs
  go_enter func137,ntmps137
  go_wp2_with fail
  refine(gD A B n m c d L xs ys w om om HX.out HY.out HTX.out HTY.out).mono ?_;rintro e w1 ⟨rfl,hst⟩;rw[Hc.out];have HB1:=ab (hst.below w.heap.size);clear hst
  go_wp2_with fail
  refine(tX A n c L xs w1 om (by have:=HB1.out.size;omega) (HX.out.below HB1.out hL)).mono ?_
  rintro e w2 ⟨A',c',rfl,hc',hU,hb⟩;have HU:=ab hU;clear hU;have HB:=ab (HB1.out.trans (hb.mono HB1.out.size));clear hb;go_wp2;go_ret2;exact⟨none,0,0,[],A',n,c',xs,rfl,af _,hc',Mj _ _ _,HU.out,xe,HTX.out,rfl,rfl,HB.out⟩
 ·by_cases hn2:n<=2
  rotate_left
  ·obtain rfl:m=1:=by
    have:m≠0:=by
     rintro rfl;have h1:=aE hy ty;have:=jt.1 (om:nl (aY ys)<=0)
     simp at this;omega
    omega
   exact CI A B n c d L xs ys w hn om hL hx hy tx ty h0 hlt
  have hm2:m<=2:=by
   have h1:=fo (om:aY ys<=aY xs)
   rw[<-aE hx tx,<-aE hy ty]at h1;omega
  have hc:0<=kt (aY xs) (aY ys):=by
   rcases az (aY ys) (aY xs)with h|h
   ·rw[jO h];omega
   ·rw[kM om];omega
  have hc2:=(o7 (aY xs) (aY ys)).2;have hx4:aY xs<18446744073709551616:=by
   have h:=iL hx.2.1;rw[hx.1]at h;have h2:(4294967296:Nat)^n<=4294967296^2:=cf om hn2;omega
  have hy4:aY ys<18446744073709551616:=by
   have h:=iL hy.2.1;rw[hy.1]at h;have h2:(4294967296:Nat)^m<=4294967296^2:=cf om hm2;omega
  have HX:=ab hx;clear hx;have HY:=ab hy;clear hy;have HTX:=ab tx;clear tx;have HTY:=ab ty;clear ty;generalize hcm:kt (aY xs) (aY ys)=cm at hc hc2;generalize hvx:aY xs=x at hlt hx4 h0 ⊢;generalize hvy:aY ys=y at hlt hy4 h0 ⊢;have HVX:=ab hvx;clear hvx;have HVY:=ab hvy;clear hvy;have Hcm:=ab hcm;clear hcm;clear hs hlt;have hn2i:(n:Int)<=2:=om
  have hcn:¬cm<0:=om
  have hy0:(y:Int)≠0:=om
  have hyn:y≠0:=om
  have hqle:x/y<=x:=jc x y;have hrlt:x%y<y:=dp x h0;have Hq:Hid (IntKind.u64.wrap ((x:Int)/(y:Int))=((x/y:Nat):Int)):=ab (by rw[IntKind.wrap_u64,<-Int.natCast_ediv];exact Int.emod_eq_of_lt (di _) om)
  have Hr:Hid ((x:Int)%(y:Int)=((x%y:Nat):Int)):=ab sm
  have Hr2:Hid ((x:Int).tmod (y:Int)=((x%y:Nat):Int)):=ab (by rw[Int.tmod_eq_emod_of_nonneg (di _)];simp)
  generalize x/y=q at hqle Hq ⊢;generalize x%y=r at hrlt Hr Hr2 ⊢
  go_enter func137,ntmps137
  go_wp2_with fail
  refine(gD A B n m c d L xs ys w om om HX.out HY.out HTX.out HTY.out).mono ?_;rintro e w1 ⟨rfl,hst⟩;rw[Hcm.out];have HB1:=ab (hst.below w.heap.size);clear hst
  go_wp2_with fail
  refine(nY A n c L xs _ om (HX.out.below HB1.out hL)).mono ?_;rintro e w' ⟨rfl,rfl⟩;rw[HVX.out]
  go_wp2_with fail
  refine(nY B m d L ys _ om (HY.out.below HB1.out hL)).mono ?_;rintro e w' ⟨rfl,rfl⟩;rw[HVY.out];go_wp2;have HQ:=ab HB1.out.drew
  go_region_held3 (fun w'=>Below w.heap.size w w')
   (first|assumption|exact HQ.out)
   (first
    | (go_at_call 135;rw[Hq.out];refine(jM q w1.drew om).mono ?_;rintro e w2 ⟨A1,k1,c1,qs,rfl,hk1,hU1,hT1,hv1,hb1⟩;have HU1:=ab hU1;clear hU1;have HT1:=ab hT1;clear hT1;have HV1:=ab hv1;clear hv1;have hB2:Below w.heap.size w w2:=HQ.out.trans (hb1.mono HQ.out.size);clear hb1)
    | (go_at_call 135;(first|rw[Hr.out]|rw[Hr2.out]);refine(jM r w2 om).mono ?_;rintro e w3 ⟨A2,k2,c2,rs,rfl,hk2,hU2,hT2,hv2,hb2⟩;have HU2:=ab hU2;clear hU2;have HT2:=ab hT2;clear hT2;have HV2:=ab hv2;clear hv2;have hB3:Below w.heap.size w w3:=hB2.trans (hb2.mono hB2.size);have HB3:=ab hb2;clear hb2))
  all_goals (try go_wp2)
  all_goals go_ret2
  all_goals exact⟨A1,k1,c1,qs,A2,k2,c2,rs,rfl,hk1,hk2,(HU1.out.below HB3.out (af _)).more HB3.out.size,HU2.out,HT1.out,HT2.out,HV1.out,HV2.out,hB3⟩
theorem fB.other{g g' i:Nat}(h:fB w g t cs)(a:g≠g'):fB (w.setCell ⟨g',i,none⟩ u) g t cs :=
 (Below.heap_setCell w ⟨g',i,none⟩ u g a).trans h
theorem MI(w:World)(a b c d:Array Value) :
  Below w.heap.size w ((((w.alloc (.cells a 50)).alloc (.cells b 50)).alloc (.cells c 50)).alloc (.cells d 50))/\fB ((((w.alloc (.cells a 50)).alloc (.cells b 50)).alloc (.cells c 50)).alloc (.cells d 50)) w.heap.size 50 a /\
  fB ((((w.alloc (.cells a 50)).alloc (.cells b 50)).alloc (.cells c 50)).alloc (.cells d 50)) (w.heap.size+1) 50 b/\fB ((((w.alloc (.cells a 50)).alloc (.cells b 50)).alloc (.cells c 50)).alloc (.cells d 50)) (w.heap.size+2) 50 c /\
  fB ((((w.alloc (.cells a 50)).alloc (.cells b 50)).alloc (.cells c 50)).alloc (.cells d 50)) (w.heap.size+3) 50 d:=by
 obtain⟨e,f,g,i⟩:=xR w a b c;refine⟨e.alloc (by first|(simp;done)|(simp;omega)) _,f.below ((bq _ _).alloc (af _) _) (by first|(simp;done)|(simp;omega)),g.below ((bq _ _).alloc (af _) _) (by first|(simp;done)|(simp;omega)),i.below ((bq _ _).alloc (af _) _) sm,?_⟩
 have h:=fB.new (((w.alloc (.cells a 50)).alloc (.cells b 50)).alloc (.cells c 50)) 50 d;simpa using h
def uU(w:World)(q r:Int)(e:Ending)(w':World):Prop:=∃v1 v2,e=.returned (.tuple #[v1,v2,.bool true])/\ed w' w'.heap.size v1 q/\ed w' w'.heap.size v2 r/\Below w.heap.size w w'
theorem uU.cells{w2:World}{g1 g2:Nat}{n1 n2 a b:Bool}{A1 A2 D1 D2:Option Addr}{k1 c1 k2 c2 m1 d1 m2 d2:Nat}{q r q' r':Int}
  (f:ed w2 w2.heap.size (.agg #[.bool n1,.slice A1 k1 c1]) q) (g:ed w2 w2.heap.size (.agg #[.bool n2,.slice A2 k2 c2]) r)
  (h:fB w2 g1 50 #[.bool a,.slice D1 m1 d1]) (m:fB w2 g2 50 #[.bool b,.slice D2 m2 d2]) (c:g1≠g2) (n:Below w.heap.size w w2) (d:w.heap.size<=g1) (e:w.heap.size<=g2) (o:q=q') (p:r=r') :
  uU w q' r' (.returned (.tuple #[.agg #[.bool n1,.slice A1 k1 c1],.agg #[.bool n2,.slice A2 k2 c2],.bool true]))
   ((((w2.setCell ⟨g1,0,none⟩ (.bool n1)).setCell ⟨g1,1,none⟩ (.slice A1 k1 c1)).setCell ⟨g2,0,none⟩ (.bool n2)).setCell ⟨g2,1,none⟩ (.slice A2 k2 c2)):=by
 subst o p;have k:fB (w2.setCell ⟨g1,0,none⟩ (.bool n1)) g1 50 #[.bool n1,.slice D1 m1 d1]:=by simpa using h.set_ 0 (.bool n1)
 have j:=(m.other (i:=0) (u:=.bool n1) c.symm).other (g':=g1) (i:=1) (u:=.slice A1 k1 c1) c.symm;have l:fB (((w2.setCell ⟨g1,0,none⟩ (.bool n1)).setCell ⟨g1,1,none⟩ (.slice A1 k1 c1)).setCell ⟨g2,0,none⟩ (.bool n2)) g2 50 #[.bool n2,.slice D2 m2 d2]:=by simpa using j.set_ 0 (.bool n2)
 have s:=(((f.put (i:=0) (u:=.bool n1) h (lI _ _ _ _)).put (i:=1) (u:=.slice A1 k1 c1) k (lI _ _ _ _)).put (i:=0) (u:=.bool n2) j (lI _ _ _ _)).put (i:=1) (u:=.slice A2 k2 c2) l (lI _ _ _ _);have t:=(((g.put (i:=0) (u:=.bool n1) h (lI _ _ _ _)).put (i:=1) (u:=.slice A1 k1 c1) k (lI _ _ _ _)).put (i:=0) (u:=.bool n2) j (lI _ _ _ _)).put (i:=1) (u:=.slice A2 k2 c2) l (lI _ _ _ _);exact⟨_,_,rfl,by simpa using s,by simpa using t,(((n.setCell (by exact d) _).setCell (by exact d) _).setCell (by exact e) _).setCell (by exact e) _⟩
theorem MA(a:Bool)(x y:Nat):sg a (x/y)=(sg false x)/(sg a y)/\((x%y:Nat):Int)=(sg false x)%(sg a y):=by
 cases a<;>simp[sg,Int.ediv_neg]
theorem CF(c:Bool)(x y:Nat)(f:0<y)(h:0<x%y):sg (!c) (x/y+1)=(sg true x)/(sg c y)/\((y-x%y:Nat):Int)=(sg true x)%(sg c y):=by
 have g:=dz x y;have i:=dp x f;have e:(-(x:Int))=(y:Int)*(-((x/y:Nat):Int)-1)+((y-x%y:Nat):Int):=by
  have:((y-x%y:Nat):Int)=(y:Int)-((x%y:Nat):Int):=om
  rw[this];have j:(x:Int)=(y:Int)*((x/y:Nat):Int)+((x%y:Nat):Int):=by rw[<-bO,<-Int.natCast_add,g]
  rw[Int.mul_sub,oL];omega
 have d:(-(x:Int))/(y:Int)=-((x/y:Nat):Int)-1/\(-(x:Int))%(y:Int)=((y-x%y:Nat):Int):=by
  have:=(Int.ediv_emod_unique (a:=-(x:Int)) (b:=(y:Int)) (r:=((y-x%y:Nat):Int)) (q:=-((x/y:Nat):Int)-1) om).2 ⟨by rw[Int.add_comm];exact e.symm,om,om⟩
  exact this
 cases c
 ·simp only[sg,qA,if_true,bQ,if_false];rw[d.1,d.2];exact⟨om,rfl⟩
 ·simp only[sg,Ae,if_true,bQ,if_false];rw[Int.ediv_neg,Int.emod_neg,d.1,d.2];exact⟨om,rfl⟩
theorem CG(c:Bool)(x y:Nat)(e:0<y)(h:x%y=0):sg (!c) (x/y)=(sg true x)/(sg c y)/\((0:Nat):Int)=(sg true x)%(sg c y):=by
 have f:=dz x y;have g:(x:Int)=(y:Int)*((x/y:Nat):Int):=by rw[<-bO];omega
 have d:(-(x:Int))/(y:Int)=-((x/y:Nat):Int)/\(-(x:Int))%(y:Int)=0:=by
  have:=(Int.ediv_emod_unique (a:=-(x:Int)) (b:=(y:Int)) (r:=0) (q:=-((x/y:Nat):Int)) om).2 ⟨by rw[oL];omega,om,om⟩
  exact this
 cases c
 ·simp only[sg,qA,if_true,bQ,if_false];rw[d.1,d.2];exact⟨rfl,rfl⟩
 ·simp only[sg,Ae,if_true,bQ,if_false];rw[Int.ediv_neg,Int.emod_neg,d.1,d.2];exact⟨om,rfl⟩
theorem yv(va vb:Value)(za zb:Int)(B:Nat)(w:World)(hB:B<=w.heap.size)(ha:ed w B va za)(hb:ed w B vb zb)(sa:nl za.natAbs<=268435456)(sb:nl zb.natAbs<=268435456)(h0:zb≠0)(hdv:∀(A D:Option Addr) (n m c d:Nat) (xs ys:List Nat) (w:World),B<=w.heap.size->cj w B A n xs->cj w B D m ys->nS xs->nS ys->0<aY ys->aY xs=za.natAbs->aY ys=zb.natAbs->Calls ah 137 #[.slice A n c,.slice D m d] w (mt w (aY xs/aY ys) (aY xs%aY ys))) :
  Calls ah 82 #[va,vb] w (uU w (za/zb) (za%zb)):=by
 obtain⟨s1,A,n,c,xs,rfl,hnc,hx,tx,rfl⟩:=ha;obtain⟨s2,D,m,d,ys,rfl,hmd,hy,ty,rfl⟩:=hb;rw[fq]at sa sb;rw[<-aE hx tx]at sa;rw[<-aE hy ty]at sb;have hy0:0<aY ys:=by
  rcases bC (aY ys)with h|h
  ·rw[h,sn]at h0;exact absurd rfl h0
  ·exact h
 have hm0:m≠0:=by
  intro h;have h1:=aE hy ty;rw[h]at h1;have:=jt.1 (om:nl (aY ys)<=0)
  simp at this;omega
 have hm0':((m:Int)==0)=false:=by simp;omega
 have HX:=ab hx;clear hx;have HY:=ab hy;clear hy;have HTX:=ab tx;clear tx;have HTY:=ab ty;clear ty;have HY0:=ab hy0;clear hy0;have HDV:=ab hdv;clear hdv;clear h0;have HN:=ab (aE HX.out HTX.out);have HM:=ab (aE HY.out HTY.out)
 go_enter func82,ntmps82
 go_wp2_with fail
 obtain⟨hb0,k1,k2,k3,k4⟩:=MI w #[ao s1,aj A n c] #[ao s2,aj D m d] #[ao false,aj none 0 0] #[ao false,aj none 0 0];generalize ((((w.alloc (Obj.cells #[ao s1,aj A n c] 50)).alloc (Obj.cells #[ao s2,aj D m d] 50)).alloc (Obj.cells #[ao false,aj none 0 0] 50)).alloc (Obj.cells #[ao false,aj none 0 0] 50))=W at hb0 k1 k2 k3 k4 ⊢;obtain⟨a0,a1⟩:=ez k1;obtain⟨b0,b1⟩:=ez k2;have HK3:=ab k3;have HK4:=ab k4;have HB0:=ab hb0;have hg2:w.heap.size+4<=W.heap.size:=k4.lt;clear k1 k2 k3 k4 hb0;have HS:=ab (show ∀w1,Below (w.heap.size+2) W w1->(w1.cell? ⟨w.heap.size,0,none⟩=some (.bool s1)/\w1.cell? ⟨w.heap.size,1,none⟩=some (.slice A n c)/\w1.cell? ⟨w.heap.size+1,0,none⟩=some (.bool s2)/\w1.cell? ⟨w.heap.size+1,1,none⟩=some (.slice D m d))from
  fun w1 h=>⟨(h.cell (by show w.heap.size<_;omega)).trans a0,(h.cell (by show w.heap.size<_;omega)).trans a1,(h.cell (by show w.heap.size+1<_;omega)).trans b0,(h.cell (by show w.heap.size+1<_;omega)).trans b1⟩)
 have HUX:Hid (cj W B A n xs):=ab (HX.out.below HB0.out hB);have HUY:Hid (cj W B D m ys):=ab (HY.out.below HB0.out hB);refine(ge D m d B ys W hmd om HUY.out HTY.out).mono ?_;rintro e w' ⟨rfl,rfl⟩
 go_wp2_with fail
 refine(ge A n c B xs W hnc om HUX.out HTX.out).mono ?_;rintro e w' ⟨rfl,rfl⟩
 go_wp2_with fail
 refine(HDV.out A D n m c d xs ys W om HUX.out HUY.out HTX.out HTY.out HY0.out (fq _ _).symm (fq _ _).symm).mono ?_;rintro e w1 ⟨A1,j1,c1,qs,A2,j2,c2,rs,rfl,hj1,hj2,hU1,hU2,hT1,hT2,hv1,hv2,hbn⟩;have hjq:j1<=n:=by
  have h1:=fo (jc (aY xs) (aY ys));rw[<-hv1,<-aE hU1 hT1,<-aE HX.out HTX.out]at h1;exact h1
 have hjr:j2<=n:=by
  have h1:=fo (Nat.mod_le (aY xs) (aY ys));rw[<-hv2,<-aE hU2 hT2,<-aE HX.out HTX.out]at h1;exact h1
 have HU1:=ab hU1;clear hU1;have HU2:=ab hU2;clear hU2;have HT1:=ab hT1;clear hT1;have HT2:=ab hT2;clear hT2;have HV1:=ab hv1;clear hv1;have HV2:=ab hv2;clear hv2;have HB1:=ab hbn;have hsz1:=hbn.size;obtain⟨c00,c01,c10,c11⟩:=HS.out w1 (hbn.mono om);clear hbn a0 a1 b0 b1
 cases s1
 ·have HZ:=ab (MA s2 (aY xs) (aY ys))
  go_wp2_with fail
  refine(fW s2 A1 j1 c1 w1.heap.size qs w1 hj1 om (af _) HU1.out HT1.out).mono ?_;rintro e y2 ⟨v,rfl,hI,hbn⟩;obtain⟨neg,A3,n3,c3,zs3,rfl,hI3⟩:=hI;have HI:=ab hI3;clear hI3;have HB2:=ab hbn;clear hbn
  go_wp2_with fail
  refine(fW false A2 j2 c2 w1.heap.size rs y2 hj2 om HB2.out.size (HU2.out.below HB2.out (af _)) HT2.out).mono ?_;rintro e y3 ⟨v,rfl,hI,hbn⟩;obtain⟨neg',A4,n4,c4,zs4,rfl,hI4⟩:=hI;have HJ:=ab hI4;clear hI4;have HB3:=ab hbn;clear hbn;have hsz2:=HB2.out.size;have HBW:Hid (Below W.heap.size W y3):=ab ((HB1.out.trans (HB2.out.mono om)).trans (HB3.out.mono om));have hk3:=HK3.out.below HBW.out om;have hk4:=HK4.out.below HBW.out om;obtain⟨e0,e1⟩:=ez hk3;have f0:=hk3.frozen 0;have f1:=hk3.frozen 1;obtain⟨g0,g1⟩:=ez hk4;have i0:=hk4.frozen 0;have i1:=hk4.frozen 1;have HK5:=ab hk3;clear hk3;have HK6:=ab hk4;clear hk4;go_wp2;exact bodyPost_ret (v:=.tuple #[.agg #[.bool neg,.slice A3 n3 c3],.agg #[.bool neg',.slice A4 n4 c4],.bool true]) (by simp[results,results82,go_sem,e0,e1,g0,g1]) rfl
   (uU.cells (ed.more (ed.below ⟨neg,A3,n3,c3,zs3,rfl,HI.out⟩ HB3.out (af _)) HB3.out.size) ⟨neg',A4,n4,c4,zs4,rfl,HJ.out⟩ HK5.out HK6.out om (HB0.out.trans (HBW.out.mono om)) om om (by rw[HV1.out];exact HZ.out.1) (by rw[HV2.out];exact HZ.out.2))
 ·by_cases hr0:j2=0
  ·subst hr0;have hrs:rs=[]:=List.length_eq_zero_iff.1 HU2.out.1;have h00:aY xs%aY ys=0:=by rw[<-HV2.out,hrs]<;>rfl
   have HZ:=ab (CG s2 (aY xs) (aY ys) HY0.out h00);have HRS:=ab hrs;clear hrs;clear h00
   go_wp2_with fail
   refine(fW (!s2) A1 j1 c1 w1.heap.size qs w1 hj1 om (af _) HU1.out HT1.out).mono ?_;rintro e y2 ⟨v,rfl,hI,hbn⟩;obtain⟨neg,A3,n3,c3,zs3,rfl,hI3⟩:=hI;have HI:=ab hI3;clear hI3;have HB2:=ab hbn;clear hbn
   go_wp2_with fail
   refine(fW false A2 0 c2 w1.heap.size rs y2 hj2 om HB2.out.size (HU2.out.below HB2.out (af _)) HT2.out).mono ?_;rintro e y3 ⟨v,rfl,hI,hbn⟩;obtain⟨neg',A4,n4,c4,zs4,rfl,hI4⟩:=hI;have HJ:=ab hI4;clear hI4;have HB3:=ab hbn;clear hbn;have hsz2:=HB2.out.size;have HBW:Hid (Below W.heap.size W y3):=ab ((HB1.out.trans (HB2.out.mono om)).trans (HB3.out.mono om));have hk3:=HK3.out.below HBW.out om;have hk4:=HK4.out.below HBW.out om;obtain⟨e0,e1⟩:=ez hk3;have f0:=hk3.frozen 0;have f1:=hk3.frozen 1;obtain⟨g0,g1⟩:=ez hk4;have i0:=hk4.frozen 0;have i1:=hk4.frozen 1;have HK5:=ab hk3;clear hk3;have HK6:=ab hk4;clear hk4;go_wp2;exact bodyPost_ret (v:=.tuple #[.agg #[.bool neg,.slice A3 n3 c3],.agg #[.bool neg',.slice A4 n4 c4],.bool true]) (by simp[results,results82,go_sem,e0,e1,g0,g1]) rfl
    (uU.cells (ed.more (ed.below ⟨neg,A3,n3,c3,zs3,rfl,HI.out⟩ HB3.out (af _)) HB3.out.size) ⟨neg',A4,n4,c4,zs4,rfl,HJ.out⟩ HK5.out HK6.out om (HB0.out.trans (HBW.out.mono om)) om om (by rw[HV1.out];exact HZ.out.1) (by rw[HRS.out];exact HZ.out.2))
  ·have hpos:0<aY xs%aY ys:=by
    rcases bC (aY xs%aY ys)with h|h
    ·have h1:=aE HU2.out HT2.out;rw[HV2.out,h]at h1;have:nl 0=0:=by have:=jt.2 (om:0<4294967296^0);omega
     omega
    ·exact h
   have HZ:=ab (CF s2 (aY xs) (aY ys) HY0.out hpos);have hlt:=dp (aY xs) HY0.out;have hj2m:j2<=m:=by
    have h1:=fo (Nat.le_of_lt hlt);rw[<-HV2.out,<-aE HU2.out HT2.out,<-aE HY.out HTY.out]at h1;exact h1
   have HLE:Hid (aY rs<=aY ys):=ab (by rw[HV2.out];omega)
   clear hlt hpos;have hj20:(0:Int)<j2:=om
   go_wp2_with fail
   have hbo:=(bq w1.heap.size w1).alloc (af _) (Obj.cells #[c8 IntKind.u32 1] 136);have hblk:fB (w1.alloc (Obj.cells #[c8 IntKind.u32 1] 136)) w1.heap.size 136 (df [1] 0):=by
    have:=fB.new w1 136 #[c8 IntKind.u32 1];simpa [df]using this
   have hU1:=cj.ofBlk (B:=w1.heap.size+1) hblk (by intro x hx;simp at hx;omega) om rfl
   refine(xW A1 (some ⟨w1.heap.size,0,none⟩) j1 1 c1 1 (w1.heap.size+1) qs [1] _ om om sm ((HU1.out.below hbo (af _)).more om) hU1).mono ?_
   rintro e w2 ⟨A5,k5,c5,zs5,rfl,hk5,hU5,hT5,hv5,hb5⟩;have HB5:=ab (hbo.trans (hb5.mono sm))
   have hk5n:k5<=n+1:=by
    have h1:=H6 (aY qs) (aY [1]);have h2:=aE hU5 hT5;have h3:=aE HU1.out HT1.out;have h4:nl (aY [1])<=1:=jt.2 (by simp[aY])
    rw[hv5]at h2;omega
   have HU5:=ab hU5;clear hU5;have HT5:=ab hT5;clear hT5;have HV5:=ab hv5;clear hv5;clear hb5 hbo hblk hU1;have hsz5:=HB5.out.size;obtain⟨d00,d01,d10,d11⟩:=HS.out w2 ((HB1.out.mono om).trans (HB5.out.mono om))
   go_wp2_with fail
   refine(oQ D A2 m j2 d c2 w1.heap.size ys rs w2 hj2m om hsz5 ((HUY.out.below (HB1.out.trans (HB5.out.mono om)) om).more om) (HU2.out.below HB5.out (af _)) HLE.out).mono ?_;rintro e w3 ⟨A6,k6,c6,zs6,rfl,hk6,hU6,hT6,hv6,hb6⟩;have hk6m:k6<=m:=by
    have h1:=fo (Nat.sub_le (aY ys) (aY rs));rw[<-hv6,<-aE hU6 hT6,<-aE HY.out HTY.out]at h1;exact h1
   have HB6:=ab hb6;clear hb6;have HU6:=ab hU6;clear hU6;have HT6:=ab hT6;clear hT6;have HV6:=ab hv6;clear hv6;have hsz6:=HB6.out.size
   go_wp2_with fail
   refine(fW (!s2) A5 k5 c5 w3.heap.size zs5 w3 hk5 om (af _) ((HU5.out.below HB6.out (af _)).more HB6.out.size) HT5.out).mono ?_;rintro e y2 ⟨v,rfl,hI,hbn⟩;obtain⟨neg,A3,n3,c3,zs3,rfl,hI3⟩:=hI;have HI:=ab hI3;clear hI3;have HB2:=ab hbn;clear hbn
   go_wp2_with fail
   refine(fW false A6 k6 c6 w3.heap.size zs6 y2 hk6 om HB2.out.size (HU6.out.below HB2.out (af _)) HT6.out).mono ?_;rintro e y3 ⟨v,rfl,hI,hbn⟩;obtain⟨neg',A4,n4,c4,zs4,rfl,hI4⟩:=hI;have HJ:=ab hI4;clear hI4;have HB3:=ab hbn;clear hbn;have hsz2:=HB2.out.size;have HBW:Hid (Below W.heap.size W y3):=ab ((((HB1.out.trans (HB5.out.mono om)).trans (HB6.out.mono om)).trans (HB2.out.mono om)).trans (HB3.out.mono om));have hk3:=HK3.out.below HBW.out om;have hk4:=HK4.out.below HBW.out om;obtain⟨e0,e1⟩:=ez hk3;have f0:=hk3.frozen 0;have f1:=hk3.frozen 1;obtain⟨g0,g1⟩:=ez hk4;have i0:=hk4.frozen 0;have i1:=hk4.frozen 1;have HK5:=ab hk3;clear hk3;have HK6:=ab hk4;clear hk4;go_wp2;exact bodyPost_ret (v:=.tuple #[.agg #[.bool neg,.slice A3 n3 c3],.agg #[.bool neg',.slice A4 n4 c4],.bool true]) (by simp[results,results82,go_sem,e0,e1,g0,g1]) rfl
    (uU.cells (ed.more (ed.below ⟨neg,A3,n3,c3,zs3,rfl,HI.out⟩ HB3.out (af _)) HB3.out.size) ⟨neg',A4,n4,c4,zs4,rfl,HJ.out⟩ HK5.out HK6.out om (HB0.out.trans (HBW.out.mono om)) om om (by rw[HV5.out,HV1.out];simp only[aY,Nat.mul_zero,Nat.add_zero];exact HZ.out.1) (by rw[HV6.out,HV2.out];exact HZ.out.2))
theorem yw(va vb:Value)(za zb:Int)(B:Nat)(w:World)(h:B<=w.heap.size)(i:ed w B va za)(j:ed w B vb zb)(sa:nl za.natAbs<=268435456)(sb:nl zb.natAbs<=268435456)(k:zb≠0)(e:za.natAbs<zb.natAbs∨nl za.natAbs<=2∨nl zb.natAbs<=1) :
  Calls ah 82 #[va,vb] w (uU w (za/zb) (za%zb)) :=
 yv va vb za zb B w h i j sa sb k fun A D n m c d xs ys w l a b tx ty o f g=>by
  rw[<-f,<-g,<-aE a tx,<-aE b ty]at e;rw[<-f,<-aE a tx]at sa;rw[<-g,<-aE b ty]at sb;exact xK A D n m c d B xs ys w om om l a b tx ty o e

theorem tabv(i:Int)(h:i.toNat<Lib.len8tab.size):((Lib.len8tab[i.toNat]'h).toNat:Int)=Lib.len8 i:=by
 simp only[Lib.len8,ByteArray.getElem?_lt' _ _ h,Option.getD_some]
theorem l24(x:Int)(h:65536<=x)(a:256<=x/65536)(b:x<=4294967295):wrap64 (24+wrap64 (Lib.len8 (x/65536/256)))=(iP x.toNat:Int):=by
 obtain⟨n,rfl⟩:∃n:Nat,x=n:=⟨x.toNat,om⟩
 have e:(n:Int)/65536/256=((n/65536/256:Nat):Int):=om
 have c:n/65536/256<256:=om
 have l:=Lib.bitLen_le8' ((n/65536/256:Nat):Int) om om;have s1:=Lib.bitLen_shift16 n om om;have d:=Lib.bitLen_shift8 (n/65536) om om;rw[e,Lib.len8_of _ om om];rw[eN]at l ⊢;rw[eN];unfold wrap64;omega
theorem DV(x:Int)(w:World)(h0:0<x)(h1:x<=4294967295):Calls ah 239 #[.int .u32 x] w fun e w'=>e=.returned (.int .i64 (iP x.toNat))/\w'=w:=by
 have h0':0<=x:=om
 go_enter func239,ntmps239
 generalize hL:Value.string _=s;obtain rfl:Value.string Lib.len8tab=s:=by rw[<-hL];kernel_rfl
 clear hL;go_wp2
 all_goals first
  | (exfalso;have hz:=Lib.len8tab_size;omega)
  | (go_ret;refine⟨congrArg Ending.returned (congrArg (c8 IntKind.i64) ?_),rfl⟩;rw[tabv])
 all_goals first
  | (exact l24 x om om om)
  | (rw[Lib.len8_of (x/65536) om om]
     have e:(x/65536).toNat=x.toNat/65536:=om
     have l:=Lib.bitLen_le8' (x/65536) om om;have s:=Lib.bitLen_shift16 x.toNat om om;rw[e]at l ⊢;unfold wrap64;omega)
  | (rw[Lib.len8_of (x/256) om om]
     have e:(x/256).toNat=x.toNat/256:=om
     have l:=Lib.bitLen_le8' (x/256) om om;have s:=Lib.bitLen_shift8 x.toNat om om;rw[e]at l ⊢;unfold wrap64;omega)
  | (rw[Lib.len8_of x om om]
     have l:=Lib.bitLen_le8' x om om;unfold wrap64;omega)
theorem zS:∀(f x:Nat),x<2^f->x<2^Lib.bitLenAux f x
 | 0,x,h=>h
 | f+1,x,h=>by
  unfold Lib.bitLenAux;by_cases a:x=0
  ·simp[a]
  ·rw[if_neg a,Nat.add_comm 1,bM];have:=zS f (x/2) (by rw[bM]at h;omega)
   omega
theorem F3(x:Nat)(w:World)(h0:0<x)(h1:x<4294967296):Calls ah 198 #[.int .u32 x] w fun e w'=>∃s:Nat,e=.returned (.int .i64 s)/\s<32/\x*2^s<4294967296/\w'=w:=by
 have l:=Lib.bitLen_le x 32 om om;have b2:x<2^iP x:=zS 64 x om;have b1:0<iP x:=by
  rcases bC (iP x)with h|h
  ·rw[h]at b2;simp at b2;omega
  ·exact h
 have e8:wrap64 (32-(iP x:Int))=((32-iP x:Nat):Int):=by unfold wrap64;omega
 have hl:((x:Int).toNat)=x:=eN x;have hr:x*2^(32-iP x)<4294967296:=by
  have h2:=Nat.mul_lt_mul_of_pos_right b2 (Nat.two_pow_pos (32-iP x));rw[<-Nat.pow_add,(om:iP x+(32-iP x)=32)]at h2
  exact h2
 have HR:=ab hr;clear hr
 go_enter func198,ntmps198
 go_wp2_with fail
 refine(DV x _ om om).mono ?_;rintro e w' ⟨rfl,rfl⟩;rw[hl];clear hl b2;go_wp2;go_ret;refine⟨32-iP x,?_,om,HR.out,rfl⟩
 exact congrArg Ending.returned (congrArg (c8 IntKind.i64) (show(32:Int)-(iP x:Int)=((32-iP x:Nat):Int) by omega))

end Go.Proofs.YtdobfmlmenaajaaGreatDoor
