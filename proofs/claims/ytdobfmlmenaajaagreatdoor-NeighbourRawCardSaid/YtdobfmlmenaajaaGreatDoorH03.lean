/-
  Lemmas for NeighbourRaw.
-/
import Derived.Test.YtdobfmlmenaajaaGreatDoorH02
import Derived.Lib.BitFns
import Derived.Lib.Strings
import Derived.Lib.Slices
import Derived.Lib.Small
import Derived.Lib.Walk
import Derived.OwnWalk
namespace Go.Proofs.YtdobfmlmenaajaaGreatDoor
open Go.RowKit Tryz
open Lib renaming bitLen→jy
open _root_.List renaming getD→cT
open Tryz renaming prog→ah
open Value renaming slice→ao,bool→aq,int→dA
set_option maxHeartbeats 6400000
set_option maxRecDepth 4096
set_option linter.all false
variable{a:Act}{ops:Array Oper}{Q:Exit->Act->World->Prop}{xs ys zs:List Nat}{rest:List Oper}{B bo k n x y:Nat}{o:Oper}{A:Option Addr}{t:TypeId}{u v:Value}{w:World}
def ns(w:World)(u v:Nat)(e:Ending)(w':World):Prop :=
 ∃(A:Option Addr) (n c:Nat) (xs:List Nat) (D:Option Addr) (m d:Nat) (ys:List Nat),e=.returned (.tuple #[.slice A n c,.slice D m d])/\n<=c/\m<=d /\
  cG w' w'.heap.size A n xs/\cG w' w'.heap.size D m ys/\oW xs/\oW ys/\aZ xs=u/\aZ ys=v/\Below w.heap.size w w'
def SJ(w:World)(B:Nat)(A:Option Addr):cG w B A 0 []:=⟨rfl,by simp[nh],fun h=>absurd h om⟩
def zY:oW []:=by intro x a;simp at a
def FW(A B:Option Addr)(n c d L:Nat)(xs ys:List Nat)(w:World)(hn:n<=536870912)(h2:2<n)(hL:L<=w.heap.size)(hx:cG w L A n xs)(hy:cG w L B 1 ys)(tx:oW xs)(ty:oW ys)
  (h0:0<aZ ys) (hge:¬aZ xs<aZ ys) :
  Calls ah 137 #[.slice A n c,.slice B 1 d] w (ns w (aZ xs/aZ ys) (aZ xs%aZ ys)):=by
 have hc:0<=li (aZ xs) (aZ ys):=by
  rcases aC (aZ ys) (aZ xs)with h|h
  .rw[kA h];omega
  .rw[lI om];omega
 obtain⟨ad,rfl,hadb,_⟩:=hx.2.2 om;obtain⟨bd,rfl,hbdb,hcb⟩:=hy.2.2 om;have hv1:aZ ys=ys.getD 0 0:=by
  have:=hy.1
  match ys,this with
  | [y],_=>simp[aZ]
 have hy4:=hy.2.1.getD 0;have hcb0:=hcb 0 om;rw[<-hv1]at hy4 hcb0;have HX:=ac hx;clear hx;have HY:=ac hy;clear hy;have HTX:=ac tx;clear tx;have HTY:=ac ty;clear ty;have HV1:=ac hv1;clear hv1;have HCB:=ac hcb0;clear hcb0;clear hcb hge;generalize hcm:li (aZ xs) (aZ ys)=cm at hc;have Hcm:=ac hcm;clear hcm;generalize hvy:aZ ys=y at h0 hy4 HCB ⊢;have HVY:=ac hvy;clear hvy;have hcn:¬cm<0:=om
 have hn2:¬(n:Int)<=2:=om
 have hn2':decide ((n:Int)<=2)=false:=by simpa using hn2
 go_enter RX,Of
 go_wp2_with fail
 refine(ik (some ad) (some bd) n 1 c d L xs ys w om om HX.out HY.out HTX.out HTY.out).mono ?_;rintro e w1 ⟨rfl,hst⟩;rw[Hcm.out];have HB1:=ac (hst.below w.heap.size);have hcell:w1.cell? (bd.add 0)=some (.int .u32 y):=(hst.cell _).trans HCB.out;clear hst;have HCC:=ac hcell;clear hcell;have HY1:=ac (HY.out.below HB1.out hL)
 go_wp2_with fail
 refine(Ll ad n c L xs w1 om om (by have:=HB1.out.size;omega) (HX.out.below HB1.out hL)).mono ?_
 rintro e w2 ⟨g,c',rfl,hc',hla⟩;have hcell2:w2.cell? (bd.add 0)=some (.int .u32 y):=by
  obtain⟨ad',e1,_,h5⟩:=(HY1.out.below (hla.1) (by have:=HB1.out.size;omega)).2.2 om
  cases e1
  have:=h5 0 om;rw[this];congr 2;have h6:=HY1.out.2.2 om;obtain⟨ad'',e2,_,h7⟩:=h6
  cases e2
  have h8:=h7 0 om;rw[HCC.out]at h8;cases h8;rfl
 have HLA:=ac hla;clear hla;have hb0:bd.add 0=bd:=by unfold Addr.add;simp
 rw[hb0]at hcell2
 go_wp2_with fail
 refine(ww w1.heap.size w1 w2 g n c' y xs om h0 hy4 HLA.out).mono ?_;rintro e w3 ⟨ps,rfl,hla3,hvp⟩;have HLA3:=ac hla3;clear hla3;have HVP:=ac hvp;clear hvp;have hr4:aZ xs%y<4294967296:=Nat.lt_trans (dj _ h0) hy4;generalize hrr:aZ xs%y=r at hr4 ⊢;have HRR:=ac hrr;clear hrr
 go_wp2_with fail
 refine(kP _ _ _ _ _ _ hc' om HLA3.out.u32).mono ?_;rintro e w' ⟨⟨k,hk,rfl,hU2,hT,hv2⟩,rfl⟩;have HU2:=ac hU2;clear hU2;have HT:=ac hT;clear hT;have HV2:=ac hv2;clear hv2
 go_wp2_with fail
 refine(kz r w3 om).mono ?_;rintro e w4 ⟨A2,k2,c2,rs,rfl,hk2,hU3,hT3,hv3,hb3⟩;have HU3:=ac hU3;clear hU3;have HT3:=ac hT3;clear hT3;have HV3:=ac hv3;clear hv3;have HB3:=ac hb3;clear hb3;go_wp2;go_ret2;exact⟨_,k,c',_,A2,k2,c2,rs,rfl,om,hk2,(HU2.out.below HB3.out (ae _)).more HB3.out.size,HU3.out,HT.out,HT3.out,HV2.out.trans HVP.out,HV3.out.trans HRR.out.symm,(HB1.out.trans (HLA3.out.1.mono HB1.out.size)).trans (HB3.out.mono (bQ HB1.out.size HLA3.out.1.size))⟩
def Ar(A B:Option Addr)(n m c d L:Nat)(xs ys:List Nat)(w:World)(hn:n<=536870912)(hm:m<=536870912)(hL:L<=w.heap.size)(hx:cG w L A n xs)(hy:cG w L B m ys)(tx:oW xs)(ty:oW ys)
  (h0:0<aZ ys) (hs:aZ xs<aZ ys∨n<=2∨m<=1) :
  Calls ah 137 #[.slice A n c,.slice B m d] w (ns w (aZ xs/aZ ys) (aZ xs%aZ ys)):=by
 by_cases hlt:aZ xs<aZ ys
 .have hq:=eO hlt;have hr:=dX hlt;rw[hq,hr];have HX:=ac hx;clear hx;have HY:=ac hy;clear hy;have HTX:=ac tx;clear tx;have HTY:=ac ty;clear ty;have Hc:=ac (lH hlt);clear hq hr hlt h0 hs
  go_enter RX,Of
  go_wp2_with fail
  refine(ik A B n m c d L xs ys w om om HX.out HY.out HTX.out HTY.out).mono ?_;rintro e w1 ⟨rfl,hst⟩;rw[Hc.out];have HB1:=ac (hst.below w.heap.size);clear hst
  go_wp2_with fail
  refine(wy A n c L xs w1 om (by have:=HB1.out.size;omega) (HX.out.below HB1.out hL)).mono ?_
  rintro e w2 ⟨A',c',rfl,hc',hU,hb⟩;have HU:=ac hU;clear hU;have HB:=ac (HB1.out.trans (hb.mono HB1.out.size));clear hb;go_wp2;go_ret2;exact⟨none,0,0,[],A',n,c',xs,rfl,ae _,hc',SJ _ _ _,HU.out,zY,HTX.out,rfl,rfl,HB.out⟩
 .by_cases hn2:n<=2
  rotate_left
  .obtain rfl:m=1:=by
    have:m≠0:=by
     rintro rfl;have h1:=aJ hy ty;have:=jS.1 (om:nl (aZ ys)<=0)
     simp at this;omega
    omega
   exact FW A B n c d L xs ys w hn om hL hx hy tx ty h0 hlt
  have hm2:m<=2:=by
   have h1:=fT (om:aZ ys<=aZ xs)
   rw[<-aJ hx tx,<-aJ hy ty]at h1;omega
  have hc:0<=li (aZ xs) (aZ ys):=by
   rcases aC (aZ ys) (aZ xs)with h|h
   .rw[kA h];omega
   .rw[lI om];omega
  have hc2:=(qe (aZ xs) (aZ ys)).2;have hx4:aZ xs<18446744073709551616:=by
   have h:=jr hx.2.1;rw[hx.1]at h;have h2:(4294967296:Nat)^n<=4294967296^2:=cp om hn2;omega
  have hy4:aZ ys<18446744073709551616:=by
   have h:=jr hy.2.1;rw[hy.1]at h;have h2:(4294967296:Nat)^m<=4294967296^2:=cp om hm2;omega
  have HX:=ac hx;clear hx;have HY:=ac hy;clear hy;have HTX:=ac tx;clear tx;have HTY:=ac ty;clear ty;generalize hcm:li (aZ xs) (aZ ys)=cm at hc hc2;generalize hvx:aZ xs=x at hlt hx4 h0 ⊢;generalize hvy:aZ ys=y at hlt hy4 h0 ⊢;have HVX:=ac hvx;clear hvx;have HVY:=ac hvy;clear hvy;have Hcm:=ac hcm;clear hcm;clear hs hlt;have hn2i:(n:Int)<=2:=om
  have hcn:¬cm<0:=om
  have hy0:(y:Int)≠0:=om
  have hyn:y≠0:=om
  have hqle:x/y<=x:=gK x y;have hrlt:x%y<y:=dj x h0;have Hq:Hid (IntKind.u64.wrap ((x:Int)/(y:Int))=((x/y:Nat):Int)):=ac (by rw[cf,<-lQ];exact dZ (cA _) om)
  have Hr:Hid ((x:Int)%(y:Int)=((x%y:Nat):Int)):=ac sm
  have Hr2:Hid ((x:Int).tmod (y:Int)=((x%y:Nat):Int)):=ac (by rw[aL (cA _)];simp)
  generalize x/y=q at hqle Hq ⊢;generalize x%y=r at hrlt Hr Hr2 ⊢
  go_enter RX,Of
  go_wp2_with fail
  refine(ik A B n m c d L xs ys w om om HX.out HY.out HTX.out HTY.out).mono ?_;rintro e w1 ⟨rfl,hst⟩;rw[Hcm.out];have HB1:=ac (hst.below w.heap.size);clear hst
  go_wp2_with fail
  refine(mC A n c L xs _ om (HX.out.below HB1.out hL)).mono ?_;rintro e w' ⟨rfl,rfl⟩;rw[HVX.out]
  go_wp2_with fail
  refine(mC B m d L ys _ om (HY.out.below HB1.out hL)).mono ?_;rintro e w' ⟨rfl,rfl⟩;rw[HVY.out];go_wp2;have HQ:=ac HB1.out.drew
  go_region_held3 (fun w'=>Below w.heap.size w w')
   (first|assumption|exact HQ.out)
   (first
    | (go_at_call 135;rw[Hq.out];refine(kz q w1.drew om).mono ?_;rintro e w2 ⟨A1,k1,c1,qs,rfl,hk1,hU1,hT1,hv1,hb1⟩;have HU1:=ac hU1;clear hU1;have HT1:=ac hT1;clear hT1;have HV1:=ac hv1;clear hv1;have hB2:Below w.heap.size w w2:=HQ.out.trans (hb1.mono HQ.out.size);clear hb1)
    | (go_at_call 135;(first|rw[Hr.out]|rw[Hr2.out]);refine(kz r w2 om).mono ?_;rintro e w3 ⟨A2,k2,c2,rs,rfl,hk2,hU2,hT2,hv2,hb2⟩;have HU2:=ac hU2;clear hU2;have HT2:=ac hT2;clear hT2;have HV2:=ac hv2;clear hv2;have hB3:Below w.heap.size w w3:=hB2.trans (hb2.mono hB2.size);have HB3:=ac hb2;clear hb2))
  all_goals (try go_wp2)
  all_goals go_ret2
  all_goals exact⟨A1,k1,c1,qs,A2,k2,c2,rs,rfl,hk1,hk2,(HU1.out.below HB3.out (ae _)).more HB3.out.size,HU2.out,HT1.out,HT2.out,HV1.out,HV2.out,hB3⟩
def gC.other{g g' i:Nat}{cs:Array Value}(h:gC w g t cs)(a:g≠g'):gC (w.setCell ⟨g',i,none⟩ u) g t cs :=
 (OR w ⟨g',i,none⟩ u g a).trans h
def To(w:World)(a b c d:Array Value) :
  Below w.heap.size w ((((w.alloc (.cells a 50)).alloc (.cells b 50)).alloc (.cells c 50)).alloc (.cells d 50))/\gC ((((w.alloc (.cells a 50)).alloc (.cells b 50)).alloc (.cells c 50)).alloc (.cells d 50)) w.heap.size 50 a /\
  gC ((((w.alloc (.cells a 50)).alloc (.cells b 50)).alloc (.cells c 50)).alloc (.cells d 50)) (w.heap.size+1) 50 b/\gC ((((w.alloc (.cells a 50)).alloc (.cells b 50)).alloc (.cells c 50)).alloc (.cells d 50)) (w.heap.size+2) 50 c /\
  gC ((((w.alloc (.cells a 50)).alloc (.cells b 50)).alloc (.cells c 50)).alloc (.cells d 50)) (w.heap.size+3) 50 d:=by
 obtain⟨e,f,g,i⟩:=AB w a b c;refine⟨e.alloc (by first|(simp;done)|(simp;omega)) _,f.below ((aX _ _).alloc (ae _) _) (by first|(simp;done)|(simp;omega)),g.below ((aX _ _).alloc (ae _) _) (by first|(simp;done)|(simp;omega)),i.below ((aX _ _).alloc (ae _) _) sm,?_⟩
 have h:=gC.new (((w.alloc (.cells a 50)).alloc (.cells b 50)).alloc (.cells c 50)) 50 d;simpa using h
def xQ(w:World)(q r:Int)(e:Ending)(w':World):Prop:=∃v1 v2,e=.returned (.tuple #[v1,v2,.bool true])/\eJ w' w'.heap.size v1 q/\eJ w' w'.heap.size v2 r/\Below w.heap.size w w'
def xQ.cells{w2:World}{g1 g2:Nat}{n1 n2 a b:Bool}{A1 A2 D1 D2:Option Addr}{k1 c1 k2 c2 m1 d1 m2 d2:Nat}{q r q' r':Int}
  (f:eJ w2 w2.heap.size (.agg #[.bool n1,.slice A1 k1 c1]) q) (g:eJ w2 w2.heap.size (.agg #[.bool n2,.slice A2 k2 c2]) r)
  (h:gC w2 g1 50 #[.bool a,.slice D1 m1 d1]) (m:gC w2 g2 50 #[.bool b,.slice D2 m2 d2]) (c:g1≠g2) (n:Below w.heap.size w w2) (d:w.heap.size<=g1) (e:w.heap.size<=g2) (o:q=q') (p:r=r') :
  xQ w q' r' (.returned (.tuple #[.agg #[.bool n1,.slice A1 k1 c1],.agg #[.bool n2,.slice A2 k2 c2],.bool true]))
   ((((w2.setCell ⟨g1,0,none⟩ (.bool n1)).setCell ⟨g1,1,none⟩ (.slice A1 k1 c1)).setCell ⟨g2,0,none⟩ (.bool n2)).setCell ⟨g2,1,none⟩ (.slice A2 k2 c2)):=by
 subst o p;have k:gC (w2.setCell ⟨g1,0,none⟩ (.bool n1)) g1 50 #[.bool n1,.slice D1 m1 d1]:=by simpa using h.set_ 0 (.bool n1)
 have j:=(m.other (i:=0) (u:=.bool n1) c.symm).other (g':=g1) (i:=1) (u:=.slice A1 k1 c1) c.symm;have l:gC (((w2.setCell ⟨g1,0,none⟩ (.bool n1)).setCell ⟨g1,1,none⟩ (.slice A1 k1 c1)).setCell ⟨g2,0,none⟩ (.bool n2)) g2 50 #[.bool n2,.slice D2 m2 d2]:=by simpa using j.set_ 0 (.bool n2)
 have s:=(((f.put (i:=0) (u:=.bool n1) h (mj _ _ _ _)).put (i:=1) (u:=.slice A1 k1 c1) k (mj _ _ _ _)).put (i:=0) (u:=.bool n2) j (mj _ _ _ _)).put (i:=1) (u:=.slice A2 k2 c2) l (mj _ _ _ _);have t:=(((g.put (i:=0) (u:=.bool n1) h (mj _ _ _ _)).put (i:=1) (u:=.slice A1 k1 c1) k (mj _ _ _ _)).put (i:=0) (u:=.bool n2) j (mj _ _ _ _)).put (i:=1) (u:=.slice A2 k2 c2) l (mj _ _ _ _);exact⟨_,_,rfl,by simpa using s,by simpa using t,(((n.setCell (by exact d) _).setCell (by exact d) _).setCell (by exact e) _).setCell (by exact e) _⟩
def Tg(a:Bool)(x y:Nat):sg a (x/y)=(sg false x)/(sg a y)/\((x%y:Nat):Int)=(sg false x)%(sg a y):=by
 cases a<;>simp[sg,EO]
def FT(c:Bool)(x y:Nat)(f:0<y)(h:0<x%y):sg (!c) (x/y+1)=(sg true x)/(sg c y)/\((y-x%y:Nat):Int)=(sg true x)%(sg c y):=by
 have g:=dd x y;have i:=dj x f;have e:(-(x:Int))=(y:Int)*(-((x/y:Nat):Int)-1)+((y-x%y:Nat):Int):=by
  have:((y-x%y:Nat):Int)=(y:Int)-((x%y:Nat):Int):=om
  rw[this];have j:(x:Int)=(y:Int)*((x/y:Nat):Int)+((x%y:Nat):Int):=by rw[<-bD,<-eB,g]
  rw[se,m9];omega
 have d:(-(x:Int))/(y:Int)=-((x/y:Nat):Int)-1/\(-(x:Int))%(y:Int)=((y-x%y:Nat):Int):=by
  have:=(o6 (a:=-(x:Int)) (b:=(y:Int)) (r:=((y-x%y:Nat):Int)) (q:=-((x/y:Nat):Int)-1) om).2 ⟨by rw[Sh];exact e.symm,om,om⟩
  exact this
 cases c
 .simp only[sg,qS,aQ,bJ,aS];rw[d.1,d.2];exact⟨om,rfl⟩
 .simp only[sg,BQ,aQ,bJ,aS];rw[EO,Se,d.1,d.2];exact⟨om,rfl⟩
def FU(c:Bool)(x y:Nat)(e:0<y)(h:x%y=0):sg (!c) (x/y)=(sg true x)/(sg c y)/\((0:Nat):Int)=(sg true x)%(sg c y):=by
 have f:=dd x y;have g:(x:Int)=(y:Int)*((x/y:Nat):Int):=by rw[<-bD];omega
 have d:(-(x:Int))/(y:Int)=-((x/y:Nat):Int)/\(-(x:Int))%(y:Int)=0:=by
  have:=(o6 (a:=-(x:Int)) (b:=(y:Int)) (r:=0) (q:=-((x/y:Nat):Int)) om).2 ⟨by rw[m9];omega,om,om⟩
  exact this
 cases c
 .simp only[sg,qS,aQ,bJ,aS];rw[d.1,d.2];exact⟨rfl,rfl⟩
 .simp only[sg,BQ,aQ,bJ,aS];rw[EO,Se,d.1,d.2];exact⟨om,rfl⟩
def Ba(va vb:Value)(za zb:Int)(B:Nat)(w:World)(hB:B<=w.heap.size)(ha:eJ w B va za)(hb:eJ w B vb zb)(sa:nl za.natAbs<=268435456)(sb:nl zb.natAbs<=268435456)(h0:zb≠0)(hdv:∀(A D:Option Addr) (n m c d:Nat) (xs ys:List Nat) (w:World),B<=w.heap.size->cG w B A n xs->cG w B D m ys->oW xs->oW ys->0<aZ ys->aZ xs=za.natAbs->aZ ys=zb.natAbs->Calls ah 137 #[.slice A n c,.slice D m d] w (ns w (aZ xs/aZ ys) (aZ xs%aZ ys))) :
  Calls ah 82 #[va,vb] w (xQ w (za/zb) (za%zb)):=by
 obtain⟨s1,A,n,c,xs,rfl,hnc,hx,tx,rfl⟩:=ha;obtain⟨s2,D,m,d,ys,rfl,hmd,hy,ty,rfl⟩:=hb;rw[fP]at sa sb;rw[<-aJ hx tx]at sa;rw[<-aJ hy ty]at sb;have hy0:0<aZ ys:=by
  rcases a6 (aZ ys)with h|h
  .rw[h,tK]at h0;exact absurd rfl h0
  .exact h
 have hm0:m≠0:=by
  intro h;have h1:=aJ hy ty;rw[h]at h1;have:=jS.1 (om:nl (aZ ys)<=0)
  simp at this;omega
 have hm0':((m:Int)==0)=false:=by simp;omega
 have HX:=ac hx;clear hx;have HY:=ac hy;clear hy;have HTX:=ac tx;clear tx;have HTY:=ac ty;clear ty;have HY0:=ac hy0;clear hy0;have HDV:=ac hdv;clear hdv;clear h0;have HN:=ac (aJ HX.out HTX.out);have HM:=ac (aJ HY.out HTY.out)
 go_enter func82,ntmps82
 go_wp2_with fail
 obtain⟨hb0,k1,k2,k3,k4⟩:=To w #[aq s1,ao A n c] #[aq s2,ao D m d] #[aq false,ao none 0 0] #[aq false,ao none 0 0];generalize ((((w.alloc (Obj.cells #[aq s1,ao A n c] 50)).alloc (Obj.cells #[aq s2,ao D m d] 50)).alloc (Obj.cells #[aq false,ao none 0 0] 50)).alloc (Obj.cells #[aq false,ao none 0 0] 50))=W at hb0 k1 k2 k3 k4 ⊢;obtain⟨a0,a1⟩:=fm k1;obtain⟨b0,b1⟩:=fm k2;have HK3:=ac k3;have HK4:=ac k4;have HB0:=ac hb0;have hg2:w.heap.size+4<=W.heap.size:=k4.lt;clear k1 k2 k3 k4 hb0;have HS:=ac (show ∀w1,Below (w.heap.size+2) W w1->(w1.cell? ⟨w.heap.size,0,none⟩=some (.bool s1)/\w1.cell? ⟨w.heap.size,1,none⟩=some (.slice A n c)/\w1.cell? ⟨w.heap.size+1,0,none⟩=some (.bool s2)/\w1.cell? ⟨w.heap.size+1,1,none⟩=some (.slice D m d))from
  fun w1 h=>⟨(h.cell (by show w.heap.size<_;omega)).trans a0,(h.cell (by show w.heap.size<_;omega)).trans a1,(h.cell (by show w.heap.size+1<_;omega)).trans b0,(h.cell (by show w.heap.size+1<_;omega)).trans b1⟩)
 have HUX:Hid (cG W B A n xs):=ac (HX.out.below HB0.out hB);have HUY:Hid (cG W B D m ys):=ac (HY.out.below HB0.out hB);refine(fY D m d B ys W hmd om HUY.out HTY.out).mono ?_;rintro e w' ⟨rfl,rfl⟩
 go_wp2_with fail
 refine(fY A n c B xs W hnc om HUX.out HTX.out).mono ?_;rintro e w' ⟨rfl,rfl⟩
 go_wp2_with fail
 refine(HDV.out A D n m c d xs ys W om HUX.out HUY.out HTX.out HTY.out HY0.out (fP _ _).symm (fP _ _).symm).mono ?_;rintro e w1 ⟨A1,j1,c1,qs,A2,j2,c2,rs,rfl,hj1,hj2,hU1,hU2,hT1,hT2,hv1,hv2,hbn⟩;have hjq:j1<=n:=by
  have h1:=fT (gK (aZ xs) (aZ ys));rw[<-hv1,<-aJ hU1 hT1,<-aJ HX.out HTX.out]at h1;exact h1
 have hjr:j2<=n:=by
  have h1:=fT (UK (aZ xs) (aZ ys));rw[<-hv2,<-aJ hU2 hT2,<-aJ HX.out HTX.out]at h1;exact h1
 have HU1:=ac hU1;clear hU1;have HU2:=ac hU2;clear hU2;have HT1:=ac hT1;clear hT1;have HT2:=ac hT2;clear hT2;have HV1:=ac hv1;clear hv1;have HV2:=ac hv2;clear hv2;have HB1:=ac hbn;have hsz1:=hbn.size;obtain⟨c00,c01,c10,c11⟩:=HS.out w1 (hbn.mono om);clear hbn a0 a1 b0 b1
 cases s1
 .have HZ:=ac (Tg s2 (aZ xs) (aZ ys))
  go_wp2_with fail
  refine(gZ s2 A1 j1 c1 w1.heap.size qs w1 hj1 om (ae _) HU1.out HT1.out).mono ?_;rintro e y2 ⟨v,rfl,hI,hbn⟩;obtain⟨neg,A3,n3,c3,zs3,rfl,hI3⟩:=hI;have HI:=ac hI3;clear hI3;have HB2:=ac hbn;clear hbn
  go_wp2_with fail
  refine(gZ false A2 j2 c2 w1.heap.size rs y2 hj2 om HB2.out.size (HU2.out.below HB2.out (ae _)) HT2.out).mono ?_;rintro e y3 ⟨v,rfl,hI,hbn⟩;obtain⟨neg',A4,n4,c4,zs4,rfl,hI4⟩:=hI;have HJ:=ac hI4;clear hI4;have HB3:=ac hbn;clear hbn;have hsz2:=HB2.out.size;have HBW:Hid (Below W.heap.size W y3):=ac ((HB1.out.trans (HB2.out.mono om)).trans (HB3.out.mono om));have hk3:=HK3.out.below HBW.out om;have hk4:=HK4.out.below HBW.out om;obtain⟨e0,e1⟩:=fm hk3;have f0:=hk3.frozen 0;have f1:=hk3.frozen 1;obtain⟨g0,g1⟩:=fm hk4;have i0:=hk4.frozen 0;have i1:=hk4.frozen 1;have HK5:=ac hk3;clear hk3;have HK6:=ac hk4;clear hk4;go_wp2;exact cI (v:=.tuple #[.agg #[.bool neg,.slice A3 n3 c3],.agg #[.bool neg',.slice A4 n4 c4],.bool true]) (by simp[results,U0,go_sem,e0,e1,g0,g1]) rfl
   (xQ.cells (eJ.more (eJ.below ⟨neg,A3,n3,c3,zs3,rfl,HI.out⟩ HB3.out (ae _)) HB3.out.size) ⟨neg',A4,n4,c4,zs4,rfl,HJ.out⟩ HK5.out HK6.out om (HB0.out.trans (HBW.out.mono om)) om om (by rw[HV1.out];exact HZ.out.1) (by rw[HV2.out];exact HZ.out.2))
 .by_cases hr0:j2=0
  .subst hr0;have hrs:rs=[]:=mX.1 HU2.out.1;have h00:aZ xs%aZ ys=0:=by rw[<-HV2.out,hrs]<;>rfl
   have HZ:=ac (FU s2 (aZ xs) (aZ ys) HY0.out h00);have HRS:=ac hrs;clear hrs;clear h00
   go_wp2_with fail
   refine(gZ (!s2) A1 j1 c1 w1.heap.size qs w1 hj1 om (ae _) HU1.out HT1.out).mono ?_;rintro e y2 ⟨v,rfl,hI,hbn⟩;obtain⟨neg,A3,n3,c3,zs3,rfl,hI3⟩:=hI;have HI:=ac hI3;clear hI3;have HB2:=ac hbn;clear hbn
   go_wp2_with fail
   refine(gZ false A2 0 c2 w1.heap.size rs y2 hj2 om HB2.out.size (HU2.out.below HB2.out (ae _)) HT2.out).mono ?_;rintro e y3 ⟨v,rfl,hI,hbn⟩;obtain⟨neg',A4,n4,c4,zs4,rfl,hI4⟩:=hI;have HJ:=ac hI4;clear hI4;have HB3:=ac hbn;clear hbn;have hsz2:=HB2.out.size;have HBW:Hid (Below W.heap.size W y3):=ac ((HB1.out.trans (HB2.out.mono om)).trans (HB3.out.mono om));have hk3:=HK3.out.below HBW.out om;have hk4:=HK4.out.below HBW.out om;obtain⟨e0,e1⟩:=fm hk3;have f0:=hk3.frozen 0;have f1:=hk3.frozen 1;obtain⟨g0,g1⟩:=fm hk4;have i0:=hk4.frozen 0;have i1:=hk4.frozen 1;have HK5:=ac hk3;clear hk3;have HK6:=ac hk4;clear hk4;go_wp2;exact cI (v:=.tuple #[.agg #[.bool neg,.slice A3 n3 c3],.agg #[.bool neg',.slice A4 n4 c4],.bool true]) (by simp[results,U0,go_sem,e0,e1,g0,g1]) rfl
    (xQ.cells (eJ.more (eJ.below ⟨neg,A3,n3,c3,zs3,rfl,HI.out⟩ HB3.out (ae _)) HB3.out.size) ⟨neg',A4,n4,c4,zs4,rfl,HJ.out⟩ HK5.out HK6.out om (HB0.out.trans (HBW.out.mono om)) om om (by rw[HV1.out];exact HZ.out.1) (by rw[HRS.out];exact HZ.out.2))
  .have hpos:0<aZ xs%aZ ys:=by
    rcases a6 (aZ xs%aZ ys)with h|h
    .have h1:=aJ HU2.out HT2.out;rw[HV2.out,h]at h1;have:nl 0=0:=by have:=jS.2 (om:0<4294967296^0);omega
     omega
    .exact h
   have HZ:=ac (FT s2 (aZ xs) (aZ ys) HY0.out hpos);have hlt:=dj (aZ xs) HY0.out;have hj2m:j2<=m:=by
    have h1:=fT (dB hlt);rw[<-HV2.out,<-aJ HU2.out HT2.out,<-aJ HY.out HTY.out]at h1;exact h1
   have HLE:Hid (aZ rs<=aZ ys):=ac (by rw[HV2.out];omega)
   clear hlt hpos;have hj20:(0:Int)<j2:=om
   go_wp2_with fail
   have hbo:=(aX w1.heap.size w1).alloc (ae _) (Obj.cells #[dA IntKind.u32 1] 136);have hblk:gC (w1.alloc (Obj.cells #[dA IntKind.u32 1] 136)) w1.heap.size 136 (dK [1] 0):=by
    have:=gC.new w1 136 #[dA IntKind.u32 1];simpa [dK]using this
   have hU1:=cG.ofBlk (B:=w1.heap.size+1) hblk (by intro x hx;simp at hx;omega) om rfl
   refine(AG A1 (some ⟨w1.heap.size,0,none⟩) j1 1 c1 1 (w1.heap.size+1) qs [1] _ om om sm ((HU1.out.below hbo (ae _)).more om) hU1).mono ?_
   rintro e w2 ⟨A5,k5,c5,zs5,rfl,hk5,hU5,hT5,hv5,hb5⟩;have HB5:=ac (hbo.trans (hb5.mono sm))
   have hk5n:k5<=n+1:=by
    have h1:=M9 (aZ qs) (aZ [1]);have h2:=aJ hU5 hT5;have h3:=aJ HU1.out HT1.out;have h4:nl (aZ [1])<=1:=jS.2 (by simp[aZ])
    rw[hv5]at h2;omega
   have HU5:=ac hU5;clear hU5;have HT5:=ac hT5;clear hT5;have HV5:=ac hv5;clear hv5;clear hb5 hbo hblk hU1;have hsz5:=HB5.out.size;obtain⟨d00,d01,d10,d11⟩:=HS.out w2 ((HB1.out.mono om).trans (HB5.out.mono om))
   go_wp2_with fail
   refine(pS D A2 m j2 d c2 w1.heap.size ys rs w2 hj2m om hsz5 ((HUY.out.below (HB1.out.trans (HB5.out.mono om)) om).more om) (HU2.out.below HB5.out (ae _)) HLE.out).mono ?_;rintro e w3 ⟨A6,k6,c6,zs6,rfl,hk6,hU6,hT6,hv6,hb6⟩;have hk6m:k6<=m:=by
    have h1:=fT (Nat.sub_le (aZ ys) (aZ rs));rw[<-hv6,<-aJ hU6 hT6,<-aJ HY.out HTY.out]at h1;exact h1
   have HB6:=ac hb6;clear hb6;have HU6:=ac hU6;clear hU6;have HT6:=ac hT6;clear hT6;have HV6:=ac hv6;clear hv6;have hsz6:=HB6.out.size
   go_wp2_with fail
   refine(gZ (!s2) A5 k5 c5 w3.heap.size zs5 w3 hk5 om (ae _) ((HU5.out.below HB6.out (ae _)).more HB6.out.size) HT5.out).mono ?_;rintro e y2 ⟨v,rfl,hI,hbn⟩;obtain⟨neg,A3,n3,c3,zs3,rfl,hI3⟩:=hI;have HI:=ac hI3;clear hI3;have HB2:=ac hbn;clear hbn
   go_wp2_with fail
   refine(gZ false A6 k6 c6 w3.heap.size zs6 y2 hk6 om HB2.out.size (HU6.out.below HB2.out (ae _)) HT6.out).mono ?_;rintro e y3 ⟨v,rfl,hI,hbn⟩;obtain⟨neg',A4,n4,c4,zs4,rfl,hI4⟩:=hI;have HJ:=ac hI4;clear hI4;have HB3:=ac hbn;clear hbn;have hsz2:=HB2.out.size;have HBW:Hid (Below W.heap.size W y3):=ac ((((HB1.out.trans (HB5.out.mono om)).trans (HB6.out.mono om)).trans (HB2.out.mono om)).trans (HB3.out.mono om));have hk3:=HK3.out.below HBW.out om;have hk4:=HK4.out.below HBW.out om;obtain⟨e0,e1⟩:=fm hk3;have f0:=hk3.frozen 0;have f1:=hk3.frozen 1;obtain⟨g0,g1⟩:=fm hk4;have i0:=hk4.frozen 0;have i1:=hk4.frozen 1;have HK5:=ac hk3;clear hk3;have HK6:=ac hk4;clear hk4;go_wp2;exact cI (v:=.tuple #[.agg #[.bool neg,.slice A3 n3 c3],.agg #[.bool neg',.slice A4 n4 c4],.bool true]) (by simp[results,U0,go_sem,e0,e1,g0,g1]) rfl
    (xQ.cells (eJ.more (eJ.below ⟨neg,A3,n3,c3,zs3,rfl,HI.out⟩ HB3.out (ae _)) HB3.out.size) ⟨neg',A4,n4,c4,zs4,rfl,HJ.out⟩ HK5.out HK6.out om (HB0.out.trans (HBW.out.mono om)) om om (by rw[HV5.out,HV1.out];simp only[aZ,dS,cF];exact HZ.out.1) (by rw[HV6.out,HV2.out];exact HZ.out.2))
def Bc(va vb:Value)(za zb:Int)(B:Nat)(w:World)(h:B<=w.heap.size)(i:eJ w B va za)(j:eJ w B vb zb)(sa:nl za.natAbs<=268435456)(sb:nl zb.natAbs<=268435456)(k:zb≠0)(e:za.natAbs<zb.natAbs∨nl za.natAbs<=2∨nl zb.natAbs<=1) :
  Calls ah 82 #[va,vb] w (xQ w (za/zb) (za%zb)) :=
 Ba va vb za zb B w h i j sa sb k fun A D n m c d xs ys w l a b tx ty o f g=>by
  rw[<-f,<-g,<-aJ a tx,<-aJ b ty]at e;rw[<-f,<-aJ a tx]at sa;rw[<-g,<-aJ b ty]at sb;exact Ar A D n m c d B xs ys w om om l a b tx ty o e

def tabv(i:Int)(h:i.toNat<Lib.len8tab.size):((Lib.len8tab[i.toNat]'h).toNat:Int)=Lib.len8 i:=by
 simp only[Lib.len8,ByteArray.getElem?_lt' _ _ h,fW]
def l24(x:Int)(h:65536<=x)(a:256<=x/65536)(b:x<=4294967295):wrap64 (24+wrap64 (Lib.len8 (x/65536/256)))=(jy x.toNat:Int):=by
 obtain⟨n,rfl⟩:∃n:Nat,x=n:=⟨x.toNat,om⟩
 have e:(n:Int)/65536/256=((n/65536/256:Nat):Int):=om
 have c:n/65536/256<256:=om
 have l:=Lib.bitLen_le8' ((n/65536/256:Nat):Int) om om;have d:=Lib.bitLen_shift16 n om om;have f:=Lib.bitLen_shift8 (n/65536) om om;rw[e,Lib.len8_of _ om om];rw[cC]at l ⊢;rw[cC];unfold wrap64;omega
def Ic(x:Int)(w:World)(h0:0<x)(h1:x<=4294967295):Calls ah 239 #[.int .u32 x] w fun e w'=>e=.returned (.int .i64 (jy x.toNat))/\w'=w:=by
 have h0':0<=x:=om
 go_enter func239,ntmps239
 generalize hL:Value.string _=s;obtain rfl:Value.string Lib.len8tab=s:=by rw[<-hL];kernel_rfl
 clear hL;go_wp2
 all_goals first
  | (exfalso;have hz:=Lib.len8tab_size;omega)
  | (go_ret;refine⟨jL Ending.returned (jL (dA IntKind.i64) ?_),rfl⟩;rw[tabv])
 all_goals first
  | (exact l24 x om om om)
  | (rw[Lib.len8_of (x/65536) om om]
     have e:(x/65536).toNat=x.toNat/65536:=om
     have l:=Lib.bitLen_le8' (x/65536) om om;have s:=Lib.bitLen_shift16 x.toNat om om;rw[e]at l ⊢;unfold wrap64;omega)
  | (rw[Lib.len8_of (x/256) om om]
     have e:(x/256).toNat=x.toNat/256:=om
     have l:=Lib.bitLen_le8' (x/256) om om;have s:=Lib.bitLen_shift8 x.toNat om om;rw[e]at l ⊢;unfold wrap64;omega)
  | (rw[Lib.len8_of x om om]
     have l:=Lib.bitLen_le8' x om om;unfold wrap64;omega)
theorem CG:∀(f x:Nat),x<2^f->x<2^Lib.bitLenAux f x
 | 0,x,h=>h
 | f+1,x,h=>by
  unfold Lib.bitLenAux;by_cases a:x=0
  .simp[a]
  .rw[af a,kF 1,cb];have:=CG f (x/2) (by rw[cb]at h;omega)
   omega
def KV(x:Nat)(w:World)(h0:0<x)(h1:x<4294967296):Calls ah 198 #[.int .u32 x] w fun e w'=>∃s:Nat,e=.returned (.int .i64 s)/\s<32/\x*2^s<4294967296/\w'=w:=by
 have l:=Lib.bitLen_le x 32 om om;have b2:x<2^jy x:=CG 64 x om;have b1:0<jy x:=by
  rcases a6 (jy x)with h|h
  .rw[h]at b2;simp at b2;omega
  .exact h
 have e8:wrap64 (32-(jy x:Int))=((32-jy x:Nat):Int):=by unfold wrap64;omega
 have hl:((x:Int).toNat)=x:=cC x;have hr:x*2^(32-jy x)<4294967296:=by
  have h2:=qB b2 (iY (32-jy x));rw[<-fJ,(om:jy x+(32-jy x)=32)]at h2
  exact h2
 have HR:=ac hr;clear hr
 go_enter func198,ntmps198
 go_wp2_with fail
 refine(Ic x _ om om).mono ?_;rintro e w' ⟨rfl,rfl⟩;rw[hl];clear hl b2;go_wp2;go_ret;refine⟨32-jy x,?_,om,HR.out,rfl⟩
 exact jL Ending.returned (jL (dA IntKind.i64) (show(32:Int)-(jy x:Int)=((32-jy x:Nat):Int) by omega))

section
variable {P:Program} (w:World)
def yf(t ty e:TypeId)(i:TypeInfo)(a:P.underlying t=some (.slice e))(b:P.info? e=some i)(A:Option Addr)(c:Nat) :
  (Builtin.append_ #[t,t] ty #[.slice none 0 0,.slice A 0 c]).run P w=.ok (.slice none 0 0) w:=by
 cases A<;>simp[Builtin.append_,bL a,sizeOf,typeInfo,b,Builtin.lenOf,Builtin.firstCells,loadCells,loadCellsFrom]
def jF(d:o.guard=none)(s x:Operand)(t:TypeId)
  (p:o.op=.call { callee:=.builtin .append,args:=#[s,x],argTypes:=#[t,t] })
  (e:TypeId) (i:TypeInfo) (z:Value) (size bytes:Nat) (q:P.underlying t=some (.slice e)) (r:P.info? e=some i) (D:i.zero=some z)
  (hsize:i.size=size) (f:i.bytes=bytes) (k:z.cells.size=size) (l:0<size)
  (v:a.eval s=.slice none 0 0)
  (A:Option Addr) (m c:Nat) (news:List Value) (y:a.eval x=.slice A m c) (B:news.length=m*size) (hnews:0<m->∃ad,A=some ad/\∀j u,news[j]? = some u->w.cell? (ad.add j)=some u) (E:∀u∈news,u.oneCell'=true)
  (F:m<=maxLen) (hbytes:m*bytes<=140737488355328)
  (h:∀A' c' w',w'.ownsRow w.heap.size e size (.slice A' m c') m news->w.grownBy w' none->wpList P ops Q rest (a.put o.dst (.slice A' m c')) w') :
  wpList P ops Q (o::rest) a w:=by
 rcases a6 m with n|n
 .subst n;have G:news=[]:=List.eq_nil_of_length_eq_zero (by simpa using B)
  subst G;refine wpList_plain d fun K H=>?_;unfold Oper.wp execOp;simp only[p,resolve,invoke,builtin,jZ,IM,ip,List.map_toArray,cU,lN,v,y,yf w t o.type e i q r A c];exact H _ _ (h none 0 w (IJ w _ e size) ⟨rfl,rfl,rfl,ae _,fun _ _ _=>rfl⟩)
 .obtain⟨ad,rfl,I⟩:=hnews n;refine pM w d s x t p w.heap.size e i z size bytes q r D hsize f k l (.slice none 0 0) 0 [] v (IJ w _ e size) ad m c news y B I E om (by simpa using hbytes) (ae _) ?_
  intro v' w' b hgrow C _;rw[aD,wK]at b;obtain⟨A',c',rfl⟩:∃A' c',v'=.slice A' m c':=by
   rcases b.2 with⟨h,J⟩|⟨g,cap,_,h,_⟩
   .omega
   .exact⟨_,_,h⟩
  exact h A' c' w' b hgrow
end
def jU(xs:List Nat):List Value:=xs.map (fun x:Nat=>dA .u32 x)
def tX(xs:List Nat):∀u∈jU xs,u.oneCell'=true:=by
 intro u a;simp only[jU,ie]at a;obtain⟨x,_,rfl⟩:=a;rfl
def cG.src(h:cG w B A n xs):0<n->∃ad,A=some ad/\∀j u,(jU xs)[j]? = some u->w.cell? (ad.add j)=some u:=by
 intro a;obtain⟨ad,rfl,_⟩:=h.2.2 a;exact⟨ad,rfl,h.cells⟩
def gI(A:Option Addr)(n c B:Nat)(xs:List Nat)(w:World)(hn:n<=c)(hm:n<=2147483648)(hB:B<=w.heap.size)(h:cG w B A n xs) :
  Calls ah 71 #[.slice A n c] w (qk w (aZ xs)):=by
 have HH:=ac h;clear h
 go_enter func71,ntmps71
 go_wp2
 go_loop [3] (fun s=>∃k:Nat,k<=n/\s=.int .i64 k/\Hid (∀j,k<=j->xs.getD j 0=0)) (fun s=>(intOf s).toNat)
 case atStart=>exact⟨n,ae _,rfl,ac (fun j hj=>by simp[cT,cH (show xs.length<=j by rw[HH.out.1];exact hj)])⟩
 case round =>
  obtain⟨k,hk,rfl,hz⟩:=hrel;by_cases h0:k=0
  .subst h0
   go_wp2_with (at_builtin;refine jF _ rfl _ _ 48 rfl 136 Tryz.t136 (.int .u32 0) 1 4 fV Ig GR Hh Iy rfl om rfl A 0 c [] rfl rfl (fun h=>absurd h om) sm sm sm ?_)
   intro A' c' w1 hown hgrow;obtain⟨hU,hc⟩:=cG.ofOwn (xs:=[]) hown (by simp[nh])
   have HU:=ac hU;have HB:=ac (ko hgrow (B:=w.heap.size) (ae _) (by intro g h;cases h))
   have HV:=ac (nB 0 xs hz.out);clear hU hown hgrow hz;go_wp2;go_ret;exact⟨_,_,_,_,rfl,hc,HU.out,zY,by rw[HV.out];rfl,HB.out⟩
  .obtain⟨m,rfl⟩:∃m,k=m+1:=⟨k-1,om⟩
   obtain⟨ad,x,rfl,_,hx',_,hx⟩:=HH.out.at_ (k:=m) om;have HX:=ac hx';clear hx';by_cases hx0:x=0
   .subst hx0;go_wp2;refine⟨⟨m,om,by go_num,ac fun j hj=>?_⟩,by simp[intOf]⟩
    rcases aC m j with h|h
    .exact hz.out j h
    .obtain rfl:j=m:=om
     exact HX.out
   .have hb1:((x:Int)==0)=false:=by simp;omega
    have HT:=HH.out.take hk;have HTT:=ac HT;clear HT
    go_wp2_with (at_builtin;refine jF _ rfl _ _ 48 rfl 136 Tryz.t136 (.int .u32 0) 1 4 fV Ig GR Hh Iy rfl om rfl (some ad) (m+1) c (jU (xs.take (m+1))) rfl (by simp[jU];rw[HH.out.1];omega) (HTT.out.src) (tX _) (by simp[maxLen];omega) om ?_)
    intro A' c' w1 hown hgrow;obtain⟨hU,hc⟩:=cG.ofOwn hown (HH.out.2.1.take _);have HU:=ac hU;have HB:=ac (ko hgrow (B:=w.heap.size) (ae _) (by intro g h;cases h))
    have HV:=ac (nB (m+1) xs hz.out);have HTP:Hid (oW (xs.take (m+1))):=ac (tG (fun _=>by rw[fK,HX.out];exact hx0) (by rw[HH.out.1];exact hk))
    clear hU hown hgrow hz;go_wp2;go_ret;exact⟨_,_,_,_,rfl,hc,HU.out,HTP.out,HV.out.symm,HB.out⟩

def Sz(neg:Bool)(k v:Nat)(h:k=0->v=0):sg (neg&&decide (0<k)) v=sg neg v:=by
 rcases a6 k with a|a
 .rw[h a,tK,tK]
 .have:decide (0<k)=true:=by simp;omega
  rw[this,Bool.and_true]
def M8(h:cG w B A n xs):n=0->aZ xs=0:=by
 intro a;subst a;rw[mX.1 h.1];rfl
def lK(neg:Bool)(A:Option Addr)(n c B:Nat)(xs:List Nat)(w:World)(hn:n<=c)(hm:n<=2147483648)(hB:B<=w.heap.size)(h:cG w B A n xs) :
  Calls ah 103 #[.bool neg,.slice A n c] w (dL w (sg neg (aZ xs))):=by
 have HH:=ac h;clear h;have hb0:=(aX w.heap.size w).alloc (ae _) (Obj.cells #[aq false,ao none 0 0] 50);have HU:=ac (HH.out.below hb0 hB);have HB0:=ac hb0;clear hb0;have hkn:∀(k:Nat) (zs:List Nat) (w':World) (B':Nat) (A':Option Addr),cG w' B' A' k zs->oW zs->aZ zs=aZ xs->k<=n:=by
  intro k zs w' B' A' hu ht hv;rw[aJ hu ht,hv];have h1:=jr HH.out.2.1;rw[HH.out.1]at h1;exact jS.2 h1
 have HKN:=ac hkn;clear hkn;have main:∀(A1:Option Addr) (k c1:Nat) (zs:List Nat) (w1:World),k<=c1->Hid (cG w1 w1.heap.size A1 k zs)->Hid (oW zs)->Hid (aZ zs=aZ xs)->Hid (Below (w.heap.size+1) (w.alloc (Obj.cells #[aq false,ao none 0 0] 50)) w1) ->
   ∀ng:Bool,ng=(neg&&decide (0<k))->gC w1 w.heap.size 50 #[.bool false,.slice none 0 0]->dL w (sg neg (aZ xs)) (.returned (.agg #[.bool ng,.slice A1 k c1])) ((w1.setCell ⟨w.heap.size,0,none⟩ (.bool ng)).setCell ⟨w.heap.size,1,none⟩ (.slice A1 k c1)):=by
  intro A1 k c1 zs w1 hk HU1 HT1 HV1 HB1 ng hng hblk;refine dL.cell ⟨ng,A1,k,c1,zs,rfl,hk,HU1.out,HT1.out,rfl⟩ hblk (HB0.out.trans (HB1.out.mono om)) (ae _) ?_;rw[hng,Sz _ _ _ (M8 HU1.out),HV1.out]
 have HM:=ac main;clear main
 cases neg
 .go_enter func103,ntmps103
  go_wp2_with fail
  refine(gI A n c B xs _ hn hm (by simp;omega) HU.out).mono ?_
  rintro e w1 ⟨A1,k,c1,zs,rfl,hk,hU1,hT1,hv1,hb1⟩;have hkn:=HKN.out _ _ _ _ _ hU1 hT1 hv1;have hblk:gC w1 w.heap.size 50 #[.bool false,.slice none 0 0]:=(gC.new w 50 _).below hb1 sm
  have HB1:Hid (Below (w.heap.size+1) (w.alloc (Obj.cells #[aq false,ao none 0 0] 50)) w1):=ac (by simpa using hb1)
  obtain⟨e0,e1⟩:=fm hblk;have f0:=hblk.frozen 0;have f1:=hblk.frozen 1;have HK:=ac hblk;have HU1:=ac hU1;clear hU1;have HT1:=ac hT1;clear hT1;have HV1:=ac hv1;clear hv1;clear hb1 hblk;go_wp2;exact cI (v:=.agg #[.bool false,.slice A1 k c1]) (by simp[results,results103,go_sem,e0,e1]) rfl (HM.out A1 k c1 zs w1 hk HU1 HT1 HV1 HB1 false sm HK.out)
 .go_enter func103,ntmps103
  go_wp2_with fail
  refine(gI A n c B xs _ hn hm (by simp;omega) HU.out).mono ?_
  rintro e w1 ⟨A1,k,c1,zs,rfl,hk,hU1,hT1,hv1,hb1⟩;have hkn:=HKN.out _ _ _ _ _ hU1 hT1 hv1;have hblk:gC w1 w.heap.size 50 #[.bool false,.slice none 0 0]:=(gC.new w 50 _).below hb1 sm
  have HB1:Hid (Below (w.heap.size+1) (w.alloc (Obj.cells #[aq false,ao none 0 0] 50)) w1):=ac (by simpa using hb1)
  obtain⟨e0,e1⟩:=fm hblk;have f0:=hblk.frozen 0;have f1:=hblk.frozen 1;have HK:=ac hblk;have HU1:=ac hU1;clear hU1;have HT1:=ac hT1;clear hT1;have HV1:=ac hv1;clear hv1;clear hb1 hblk;go_wp2;exact cI (v:=.agg #[.bool (decide (0<k)),.slice A1 k c1]) (by simp[results,results103,go_sem,e0,e1]) rfl (HM.out A1 k c1 zs w1 hk HU1 HT1 HV1 HB1 _ (by rw[Bool.true_and]) HK.out)
def pO(neg:Bool)(v:Nat)(w:World)(hv:v<18446744073709551616) :
  Calls ah 69 #[.bool neg,.int .u64 v] w (dL w (sg neg v)):=by
 have hl:nh [v%4294967296,v/4294967296]:=by
  intro x hx;simp only[sJ,bS,Ve]at hx;rcases hx with rfl|rfl<;>omega
 have hvv:aZ [v%4294967296,v/4294967296]=v:=by simp[aZ];omega
 go_enter func69,ntmps69
 go_wp2_with fail
 obtain⟨W,hW⟩:∃W,W=w.alloc (Obj.cells #[aq false,ao none 0 0] 50):=⟨_,rfl⟩;have hsz:W.heap.size=w.heap.size+1:=by rw[hW];simp
 have hk:gC W w.heap.size 50 #[.bool false,.slice none 0 0]:=by rw[hW];exact gC.new w 50 _
 have HB0:Hid (Below w.heap.size w W):=ac (by rw[hW];exact(aX w.heap.size w).alloc (ae _) _)
 rw[<-hW];have hb:gC (W.alloc (Obj.cells #[dA IntKind.u32 ((v:Int)%4294967296),dA IntKind.u32 ((v:Int)/4294967296)] 136)) W.heap.size 136 (dK [v%4294967296,v/4294967296] 0):=by
  have:=gC.new W 136 #[dA IntKind.u32 ((v:Int)%4294967296),dA IntKind.u32 ((v:Int)/4294967296)];simpa [dK]using this
 have hbb:=(aX W.heap.size W).alloc (ae _) (Obj.cells #[dA IntKind.u32 ((v:Int)%4294967296),dA IntKind.u32 ((v:Int)/4294967296)] 136);have hU:=cG.ofBlk (B:=W.heap.size+1) hb hl om rfl;have HK:=ac (hk.below hbb om);have HBV:Hid (Below w.heap.size w (W.alloc (Obj.cells #[dA IntKind.u32 ((v:Int)%4294967296),dA IntKind.u32 ((v:Int)/4294967296)] 136))):=ac (HB0.out.trans (hbb.mono om));rw[hsz]at hU hb;clear hk hb hbb hW;generalize hVV:W.alloc (Obj.cells #[dA IntKind.u32 ((v:Int)%4294967296),dA IntKind.u32 ((v:Int)/4294967296)] 136)=V at HK HBV hU ⊢;have hvs:V.heap.size=w.heap.size+2:=by rw[<-hVV];simp[hsz]
 clear hVV;have HU:=ac hU;clear hU;have HVV:=ac hvv;clear hvv;refine(lK neg _ _ _ (w.heap.size+1+1) _ V (ae _) sm om HU.out).mono ?_
 rintro e w2 ⟨v,rfl,hI,hb2⟩;obtain⟨neg,A2,n2,c2,zs2,rfl,hI2⟩:=hI;have hblk:gC w2 (w.heap.size) 50 #[.bool false,.slice none 0 0]:=gC.below (w:=V) HK.out hb2 om;obtain⟨e0,e1⟩:=fm hblk;have f0:=hblk.frozen 0;have f1:=hblk.frozen 1;have HK2:=ac hblk;clear hblk;have HI:=ac hI2;clear hI2;have HB2:=ac hb2;clear hb2;go_wp2;exact cI (v:=.agg #[.bool neg,.slice A2 n2 c2]) (by simp[results,results69,go_sem,e0,e1]) rfl
  (dL.cell ⟨neg,A2,n2,c2,zs2,rfl,HI.out⟩ HK2.out (HBV.out.trans (HB2.out.mono (by first|omega|(simp;done)|(simp;omega)))) om (by rw[HVV.out]))

def Gp(z:Int)(w:World)(h1:-9223372036854775808<=z)(h2:z<=9223372036854775807):Calls ah 29 #[.int .i64 z] w (dL w z):=by
 have HB0:=ac ((aX w.heap.size w).alloc (ae _) (Obj.cells #[aq false,ao none 0 0] 50));have HK:=ac (gC.new w 50 #[aq false,ao none 0 0]);by_cases hz:z<0
 .go_enter func29,ntmps29
  go_wp2_with fail
  rw[show IntKind.u64.wrap (-IntKind.u64.wrap z)=((z.natAbs:Nat):Int)from by rw[cf,cf];omega]
  refine(pO true z.natAbs _ om).mono ?_;rintro e w2 ⟨v,rfl,hI,hb2⟩;obtain⟨neg,A2,n2,c2,zs2,rfl,hI2⟩:=hI;have hblk:gC w2 (w.heap.size) 50 #[.bool false,.slice none 0 0]:=gC.below (w:=w.alloc (Obj.cells #[aq false,ao none 0 0] 50)) HK.out hb2 sm
  obtain⟨e0,e1⟩:=fm hblk;have f0:=hblk.frozen 0;have f1:=hblk.frozen 1;have HK2:=ac hblk;clear hblk;have HI:=ac hI2;clear hI2;have HB2:=ac hb2;clear hb2;go_wp2;exact cI (v:=.agg #[.bool neg,.slice A2 n2 c2]) (by simp[results,results29,go_sem,e0,e1]) rfl
   (dL.cell ⟨neg,A2,n2,c2,zs2,rfl,HI.out⟩ HK2.out (HB0.out.trans (HB2.out.mono (by first|omega|(simp;done)|(simp;omega)))) om (by simp[sg];omega))
 .have hw:IntKind.u64.wrap z=((z.natAbs:Nat):Int):=by rw[cf];omega
  go_enter func29,ntmps29
  go_wp2_with fail
  refine(pO false z.natAbs _ om).mono ?_;rintro e w2 ⟨v,rfl,hI,hb2⟩;obtain⟨neg,A2,n2,c2,zs2,rfl,hI2⟩:=hI;have hblk:gC w2 (w.heap.size) 50 #[.bool false,.slice none 0 0]:=gC.below (w:=w.alloc (Obj.cells #[aq false,ao none 0 0] 50)) HK.out hb2 sm
  obtain⟨e0,e1⟩:=fm hblk;have f0:=hblk.frozen 0;have f1:=hblk.frozen 1;have HK2:=ac hblk;clear hblk;have HI:=ac hI2;clear hI2;have HB2:=ac hb2;clear hb2;go_wp2;exact cI (v:=.agg #[.bool neg,.slice A2 n2 c2]) (by simp[results,results29,go_sem,e0,e1]) rfl
   (dL.cell ⟨neg,A2,n2,c2,zs2,rfl,HI.out⟩ HK2.out (HB0.out.trans (HB2.out.mono (by first|omega|(simp;done)|(simp;omega)))) om (by simp[sg];omega))
def CQ(va:Value)(za:Int)(B:Nat)(w:World)(hB:B<=w.heap.size)(ha:eJ w B va za)(sa:nl za.natAbs<=2147483648) :
  Calls ah 68 #[va] w (dL w (-za)):=by
 obtain⟨s1,A,n,c,xs,rfl,hnc,hx,tx,rfl⟩:=ha;rw[fP,<-aJ hx tx]at sa;have HX:=ac hx;clear hx;have HTX:=ac tx;clear tx
 go_enter func68,ntmps68
 go_wp2_with fail
 obtain⟨hb0,k1,k3⟩:=ru w #[aq s1,ao A n c] #[aq false,ao none 0 0];generalize ((w.alloc (Obj.cells #[aq s1,ao A n c] 50)).alloc (Obj.cells #[aq false,ao none 0 0] 50))=W at hb0 k1 k3 ⊢;have HK:=ac k3;clear k3 k1;have HB0:=ac hb0;clear hb0;have hsz:w.heap.size+1<W.heap.size:=HK.out.lt;refine(lK (!s1) A n c B xs W hnc sa om (HX.out.below HB0.out hB)).mono ?_;rintro e w2 ⟨v,rfl,hI,hb2⟩;obtain⟨neg,A2,n2,c2,zs2,rfl,hI2⟩:=hI;have hblk:gC w2 (w.heap.size+1) 50 #[.bool false,.slice none 0 0]:=gC.below (w:=W) HK.out hb2 om;obtain⟨e0,e1⟩:=fm hblk;have f0:=hblk.frozen 0;have f1:=hblk.frozen 1;have HK2:=ac hblk;clear hblk;have HI:=ac hI2;clear hI2;have HB2:=ac hb2;clear hb2;go_wp2;exact cI (v:=.agg #[.bool neg,.slice A2 n2 c2]) (by simp[results,results68,go_sem,e0,e1]) rfl
  (dL.cell ⟨neg,A2,n2,c2,zs2,rfl,HI.out⟩ HK2.out (HB0.out.trans (HB2.out.mono (by first|omega|(simp;done)|(simp;omega)))) om (by rw[Hd]))
def L5(va:Value)(za:Int)(B:Nat)(w:World)(hB:B<=w.heap.size)(ha:eJ w B va za)(sa:nl za.natAbs<=2147483648) :
  Calls ah 45 #[va] w (dL w ((za.natAbs:Int))):=by
 obtain⟨s1,A,n,c,xs,rfl,hnc,hx,tx,rfl⟩:=ha;rw[fP,<-aJ hx tx]at sa;have HX:=ac hx;clear hx;have HTX:=ac tx;clear tx
 go_enter func45,ntmps45
 go_wp2_with fail
 obtain⟨hb0,k1,k3⟩:=ru w #[aq s1,ao A n c] #[aq false,ao none 0 0];generalize ((w.alloc (Obj.cells #[aq s1,ao A n c] 50)).alloc (Obj.cells #[aq false,ao none 0 0] 50))=W at hb0 k1 k3 ⊢;have HK:=ac k3;clear k3 k1;have HB0:=ac hb0;clear hb0;have hsz:w.heap.size+1<W.heap.size:=HK.out.lt;refine(lK false A n c B xs W hnc sa om (HX.out.below HB0.out hB)).mono ?_;rintro e w2 ⟨v,rfl,hI,hb2⟩;obtain⟨neg,A2,n2,c2,zs2,rfl,hI2⟩:=hI;have hblk:gC w2 (w.heap.size+1) 50 #[.bool false,.slice none 0 0]:=gC.below (w:=W) HK.out hb2 om;obtain⟨e0,e1⟩:=fm hblk;have f0:=hblk.frozen 0;have f1:=hblk.frozen 1;have HK2:=ac hblk;clear hblk;have HI:=ac hI2;clear hI2;have HB2:=ac hb2;clear hb2;go_wp2;exact cI (v:=.agg #[.bool neg,.slice A2 n2 c2]) (by simp[results,results45,go_sem,e0,e1]) rfl
  (dL.cell ⟨neg,A2,n2,c2,zs2,rfl,HI.out⟩ HK2.out (HB0.out.trans (HB2.out.mono (by first|omega|(simp;done)|(simp;omega)))) om (by rw[fP];simp[sg]))
def wH(va:Value)(za:Int)(B:Nat)(w:World)(hB:B<=w.heap.size)(ha:eJ w B va za)(sa:nl za.natAbs<=2147483648) :
  Calls ah 126 #[va] w (dL w (za)):=by
 obtain⟨s1,A,n,c,xs,rfl,hnc,hx,tx,rfl⟩:=ha;rw[fP,<-aJ hx tx]at sa;have HX:=ac hx;clear hx;have HTX:=ac tx;clear tx
 go_enter func126,ntmps126
 go_wp2_with fail
 obtain⟨hb0,k1,k3⟩:=ru w #[aq s1,ao A n c] #[aq false,ao none 0 0];generalize ((w.alloc (Obj.cells #[aq s1,ao A n c] 50)).alloc (Obj.cells #[aq false,ao none 0 0] 50))=W at hb0 k1 k3 ⊢;have HK:=ac k3;clear k3 k1;have HB0:=ac hb0;clear hb0;have hsz:w.heap.size+1<W.heap.size:=HK.out.lt;refine(lK s1 A n c B xs W hnc sa om (HX.out.below HB0.out hB)).mono ?_;rintro e w2 ⟨v,rfl,hI,hb2⟩;obtain⟨neg,A2,n2,c2,zs2,rfl,hI2⟩:=hI;have hblk:gC w2 (w.heap.size+1) 50 #[.bool false,.slice none 0 0]:=gC.below (w:=W) HK.out hb2 om;obtain⟨e0,e1⟩:=fm hblk;have f0:=hblk.frozen 0;have f1:=hblk.frozen 1;have HK2:=ac hblk;clear hblk;have HI:=ac hI2;clear hI2;have HB2:=ac hb2;clear hb2;go_wp2;exact cI (v:=.agg #[.bool neg,.slice A2 n2 c2]) (by simp[results,results126,go_sem,e0,e1]) rfl
  (dL.cell ⟨neg,A2,n2,c2,zs2,rfl,HI.out⟩ HK2.out (HB0.out.trans (HB2.out.mono (by first|omega|(simp;done)|(simp;omega)))) om (rfl))
def tg(va:Value)(za:Int)(B:Nat)(w:World)(hB:B<=w.heap.size)(ha:eJ w B va za)(sa:nl za.natAbs<=2147483648) :
  Calls ah 64 #[va] w fun e w'=>e=.returned (.int .i64 za.sign)/\Below w.heap.size w w':=by
 obtain⟨s1,A,n,c,xs,rfl,hnc,hx,tx,rfl⟩:=ha;rw[fP,<-aJ hx tx]at sa;have hb0:=(aX w.heap.size w).alloc (ae _) (Obj.cells #[aq s1,ao A n c] 50);have hk:=gC.new w 50 #[aq s1,ao A n c];have HU:=ac (hx.below hb0 hB);have HX:=ac hx;clear hx;have HTX:=ac tx;clear tx;have HN:=ac (aJ HX.out HTX.out);have HC:=ac (nO s1 (aZ xs));have HB0:=ac hb0;clear hb0;have HK:=ac hk;clear hk;generalize hr:(sg s1 (aZ xs)).sign=r at HC;clear hr
 go_enter func64,ntmps64
 go_wp2_with fail
 refine(gI A n c B xs _ hnc sa (by simp;omega) HU.out).mono ?_
 rintro e w1 ⟨A1,k,c1,zs,rfl,hk,hU1,hT1,hv1,hb1⟩;have hkn:k=n:=by rw[aJ hU1 hT1,hv1];exact HN.out.symm
 subst hkn;have hblk:=HK.out.below hb1 sm
 obtain⟨e0,e1⟩:=fm hblk;have HBB:=ac (HB0.out.trans (hb1.mono sm))
 clear hblk hb1 hU1 hT1 hv1;by_cases h0:k=0
 .subst h0;have hz:=M8 HX.out rfl;have hr:r=0:=by have:=HC.out;omega
  clear hz;subst hr;go_wp2;go_ret;exact⟨rfl,HBB.out⟩
 .have hpos:0<aZ xs:=by
   rcases a6 (aZ xs)with h|h
   .have h1:=HN.out;rw[h]at h1;have:nl 0=0:=by have:=jS.2 (om:0<4294967296^0);omega
    omega
   .exact h
  have h1:((k:Int)==0)=false:=by simp;omega
  cases s1
  .have hr:r=1:=by have:=HC.out;simp at this;omega
   subst hr;clear hpos;go_wp2;go_ret;exact⟨rfl,HBB.out⟩
  .have hr:r=-1:=by have:=HC.out;simp at this;omega
   subst hr;clear hpos;go_wp2;go_ret;exact⟨rfl,HBB.out⟩
def ma(A B:Option Addr)(n m c d L:Nat)(xs ys:List Nat)(w:World)(hn:n<=9223372036854775807)(hm:m<=9223372036854775807)(hx:cG w L A n xs)(hy:cG w L B m ys)(tx:oW xs)(ty:oW ys) :
  Calls ah 70 #[.slice A n c,.slice B m d] w fun e w'=>e=.returned (.int .i64 (li (aZ xs) (aZ ys)))/\d9 w w':=by
 have HX:=ac hx;clear hx;have HY:=ac hy;clear hy;have TX:=ac tx;clear tx;have TY:=ac ty;clear ty;by_cases h1:n<m
 .have hr:=ac (lH (pP HX.out.2.1 TY.out (by rw[HX.out.1,HY.out.1];exact h1)))
  have hne:((n:Int) != (m:Int))=true:=by simp;omega
  have hne2:¬(n:Int)=m:=om
  go_enter func70,ntmps70
  go_wp2;go_ret;exact⟨by rw[hr.out];rfl,d9.refl _⟩
 by_cases h2:m<n
 .have hr:=ac (kA (pP HY.out.2.1 TX.out (by rw[HX.out.1,HY.out.1];exact h2)))
  have hne:((n:Int) != (m:Int))=true:=by simp;omega
  have hne2:¬(n:Int)=m:=om
  go_enter func70,ntmps70
  go_wp2;go_ret;exact⟨by rw[hr.out];rfl,d9.refl _⟩
 obtain rfl:n=m:=om
 go_enter func70,ntmps70
 go_wp2
 go_loopw [5] (fun iv wr=>∃(k:Nat),k<=n/\iv=.int .i64 ((k:Int)-1)/\Hid (d9 w wr)/\Hid (xs.drop k=ys.drop k)) (fun iv _=>(intOf iv+1).toNat)
 case atStart=>exact⟨n,om,rfl,ac (d9.refl w),ac (by rw[kG (by rw[HX.out.1];omega),kG (by rw[HY.out.1];omega)])⟩
 case round =>
  obtain⟨k,hk,rfl,HQ,HD⟩:=hrel;by_cases h0:k=0
  .subst h0;have hr:=ac (lI (show aZ xs=aZ ys by have:=HD.out;simp only[yR]at this;rw[this]))
   go_wp2;go_ret;exact⟨by rw[hr.out];rfl,HQ.out⟩
  .obtain⟨i,rfl⟩:∃i,k=i+1:=⟨k-1,om⟩
   obtain⟨ad,x,rfl,_,hxx,hx4,h3⟩:=(HX.out.still HQ.out).at_ (k:=i) om;obtain⟨bd,y,rfl,_,hyy,hy4,h4⟩:=(HY.out.still HQ.out).at_ (k:=i) om;have HXX:=ac hxx;clear hxx;have HYY:=ac hyy;clear hyy;have e1:((i+1:Nat):Int)-1=(i:Int):=om
   rw[e1];clear e1;have hi0:(0:Int)<=i:=om
   have hin:(i:Int)<n:=om
   rcases dY x y with hlt|heq|hgt
   .have hr:=ac (lH (rK HX.out.2.1 (i:=i) (by rw[HX.out.1];omega) (by rw[HX.out.1,HY.out.1]) HD.out (by rw[HXX.out,HYY.out];exact hlt)))
    have hne:((x:Int) != (y:Int))=true:=by simp;omega
    have hne2:¬(x:Int)=y:=om
    go_wp2
    go_quiet (fail)
    go_wp2
    go_quiet (fail)
    go_wp2;go_ret;exact⟨by rw[hr.out];rfl,by repeat' (first|exact HQ.out|apply d9.more)⟩
   .subst heq;go_wp2
    go_quiet (fail)
    go_wp2
    go_roundw
    case rel=>exact⟨i,om,rfl,ac (by repeat' (first|exact HQ.out|apply d9.more)),ac (by rw[rT (by rw[HX.out.1];omega),rT (xs:=ys) (by rw[HY.out.1];omega),HXX.out,HYY.out,HD.out])⟩
    case measure=>simp[intOf]
   .have hr:=ac (kA (rK HY.out.2.1 (i:=i) (by rw[HY.out.1];omega) (by rw[HX.out.1,HY.out.1]) HD.out.symm (by rw[HXX.out,HYY.out];exact hgt)))
    have hne:((x:Int) != (y:Int))=true:=by simp;omega
    have hne2:¬(x:Int)=y:=om
    go_wp2
    go_quiet (fail)
    go_wp2
    go_quiet (fail)
    go_wp2;go_ret;exact⟨by rw[hr.out];rfl,by repeat' (first|exact HQ.out|apply d9.more)⟩

def R6(w wr:World)(e:TypeId)(size:Nat)(v:Value)(n:Nat)(cs:List Value):Prop:=wr.ownsRow w.heap.size e size v n cs/\Below w.heap.size w wr
def R6.start(w:World)(e:TypeId)(size:Nat):R6 w w e size (.slice none 0 0) 0 []:=⟨IJ w _ e size,aX _ _⟩
def E7{P:Program}(d:o.guard=none)(s x:Operand)(t:TypeId)
  (p:o.op=.call { callee:=.builtin .append,args:=#[s,x],argTypes:=#[t,t] })
  (e:TypeId) (i:TypeInfo) (z:Value) (size bytes:Nat) (q:P.underlying t=some (.slice e)) (r:P.info? e=some i) (y:i.zero=some z)
  (hsize:i.size=size) (f:i.bytes=bytes) (j:z.cells.size=size) (k:0<size)
  (w wr:World) (v:Value) (n:Nat) (cs:List Value) (A:a.eval s=v) (b:R6 w wr e size v n cs)
  (new:Array Value) (c:Nat) (B:a.eval x=.slice (some ⟨wr.heap.size,0,none⟩) 1 c) (C:new.size=size) (D:∀u∈new.toList,u.oneCell'=true)
  (l:n+1<=maxLen) (hbytes:(n+1)*bytes<=140737488355328)
  (h:∀v' w',R6 w w' e size v' (n+1) (cs++new.toList)->wpList P ops Q rest (a.put o.dst v') w') :
  wpList P ops Q (o::rest) a (wr.alloc (.cells new e)):=by
 have m:=b.2.alloc b.2.size (Obj.cells new e);refine pM _ d s x t p w.heap.size e i z size bytes q r y hsize f j k v n cs A (b.1.alloc _) ⟨wr.heap.size,0,none⟩ 1 c new.toList B (by simpa using C) (World.news_of_block (jC wr _)) D l hbytes m.size ?_
 intro v' w' E F _ _;refine h v' w' ⟨E,m.trans (ko F m.size ?_)⟩;intro g G;exact(b.1.lt g G).1
def jg(l:List Nat)(k:Nat):aZ (l.take (k+1))=aZ (l.take k)+4294967296^k*l.getD k 0:=by
 rcases aC k l.length with h|h
 .exact en l k h
 .rw[bR h,bR om];simp[cT,cH h]
def zq9(w:World)(v len:Nat)(e:Ending)(w':World):Prop :=
 ∃(A:Option Addr) (n c:Nat) (zs:List Nat),e=.returned (.slice A n c)/\n<=c/\n<=len/\cG w' w'.heap.size A n zs/\aZ zs=v/\Below w.heap.size w w'
def Bs(zs:List Nat)(x:Nat):jU zs++(#[dA .u32 x]:Array Value).toList=jU (zs++[x]):=by simp[jU]
def R6.slice{wr:World}{e:TypeId}{size:Nat}{cs:List Value}(h:R6 w wr e size v n cs):∃A c,v=.slice A n c:=by
 rcases h.1.2 with⟨h,a⟩|⟨g,cap,_,h,_⟩
 .exact⟨none,0,by rw[h,a]⟩
 .exact⟨_,_,h⟩
def AU(w wr:World)(v:Value)(zs:List Nat):Prop:=R6 w wr 136 1 v zs.length (jU zs)
def AU.start(w:World):AU w w (.slice none 0 0) []:=R6.start w 136 1
def ia(d:o.guard=none)(s x:Operand)
  (f:o.op=.call { callee:=.builtin .append,args:=#[s,x],argTypes:=#[48,48] })
  (w wr:World) (v:Value) (zs:List Nat) (g:a.eval s=v) (b:AU w wr v zs) (y:Nat)
  (c:Nat) (i:a.eval x=.slice (some ⟨wr.heap.size,0,none⟩) 1 c) (j:zs.length<=4294967296)
  (h:∀v' w',AU w w' v' (zs++[y])->wpList ah ops Q rest (a.put o.dst v') w') :
  wpList ah ops Q (o::rest) a (wr.alloc (.cells #[.int .u32 (y:Int)] 136)):=by
 refine E7 d s x 48 f 136 Tryz.t136 (.int .u32 0) 1 4 fV Ig GR Hh Iy rfl om w wr v zs.length (jU zs) g b #[.int .u32 y] c i rfl (by simp[Value.oneCell']) (by simp[maxLen];omega) om ?_
 intro v' w' e;rw[Bs]at e;exact h v' w' (by simpa [AU]using e)

structure QX(xs ys zs:List Nat)(k car:Nat):Prop where
 len:zs.length=k
 lim:nh zs
 eq:aZ zs+car*4294967296^k=aZ (xs.take k)+aZ (ys.take k)
 car:car<=1
def QX.step{car:Nat}(h:QX xs ys zs k car)(b:xs.getD k 0=x)(c:ys.getD k 0=y)(d:x<4294967296)(e:y<4294967296) :
  QX xs ys (zs++[(car+x+y)%4294967296]) (k+1) ((car+x+y)/4294967296):=by
 have f:=h.car;refine⟨by simp[h.len],h.lim.snoc (dj _ om),?_,om⟩
 rw[iy,h.len,jg,jg,b,c,cb];have a:=rA (x:=x) (y:=y) h.eq;rw[<-kW]at a;exact a
def O7(A B:Option Addr)(n m c d L:Nat)(xs ys:List Nat)(w:World)(hn:n<=2147483648)(hm:m<=2147483648)(hL:L<=w.heap.size)(hx:cG w L A n xs)(hy:cG w L B m ys) :
  Calls ah 145 #[.slice A n c,.slice B m d] w (zq9 w (aZ xs+aZ ys) (max n m+1)):=by
 have HX:=ac hx;clear hx;have HY:=ac hy;clear hy
 go_enter func145,ntmps145
 go_wp2
 go_loopw [5,6,7] (fun ov cv iv wr=>∃(k car:Nat) (zs:List Nat),k<=max n m/\iv=.int .i64 k/\cv=.int .u64 car/\car<=1/\Hid (AU w wr ov zs)/\Hid (QX xs ys zs k car)) (fun _ _ iv _=>max n m-(intOf iv).toNat)
 case atStart=>exact⟨0,0,[],om,rfl,rfl,om,ac (AU.start w),ac ⟨rfl,by simp[nh],by simp[aZ],om⟩⟩
 case round =>
  obtain⟨k,car,zs,hk,rfl,rfl,hcar,HO,HS⟩:=hrel;have hzl:=HS.out.len;have hk0:(0:Int)<=k:=om
  by_cases hkn:k<n
  .obtain⟨ad,x,rfl,hab,hxx,hx4,h1⟩:=(HX.out.below HO.out.2 hL).at_ (k:=k) hkn;have HXX:=ac hxx;clear hxx;have hkn':(k:Int)<n:=om
   by_cases hkm:k<m
   .obtain⟨bd,y,rfl,hbb,hyy,hy4,h2⟩:=(HY.out.below HO.out.2 hL).at_ (k:=k) hkm;have HYY:=ac hyy;clear hyy;have hkm':(k:Int)<m:=om
    have HPI:Hid (((car:Int)+(x:Int)+(y:Int))%4294967296=((((car+x+y)%4294967296:Nat)):Int)):=ac om
    go_wp2_with (at_builtin;rw[HPI.out];refine ia rfl _ _ rfl w _ _ zs rfl HO.out ((car+x+y)%4294967296) _ rfl om ?_)
    intro v' w1 hO;have HO1:=ac hO;clear hO;go_wp2
    go_roundw
    case rel=>exact⟨k+1,(car+x+y)/4294967296,_,om,by go_num,by go_num,om,HO1,ac (HS.out.step HXX.out HYY.out hx4 hy4)⟩
    case measure=>simp[intOf];omega
   .have hkm':¬(k:Int)<m:=om
    have hy0:ys.getD k 0=0:=by simp[cT,cH (show ys.length<=k by rw[HY.out.1];omega)]
    have HY0:=ac hy0;clear hy0;have HPI:Hid (((car:Int)+(x:Int))%4294967296=((((car+x+0)%4294967296:Nat)):Int)):=ac om
    go_wp2_with (at_builtin;rw[HPI.out];refine ia rfl _ _ rfl w _ _ zs rfl HO.out ((car+x+0)%4294967296) _ rfl om ?_)
    intro v' w1 hO;have HO1:=ac hO;clear hO;go_wp2
    go_roundw
    case rel=>exact⟨k+1,(car+x+0)/4294967296,_,om,by go_num,by go_num,om,HO1,ac (HS.out.step HXX.out HY0.out hx4 om)⟩
    case measure=>simp[intOf];omega
  .have hkn':¬(k:Int)<n:=om
   have hkn2:decide ((k:Int)<n)=false:=by simpa using hkn'
   by_cases hkm:k<m
   .obtain⟨bd,y,rfl,hbb,hyy,hy4,h2⟩:=(HY.out.below HO.out.2 hL).at_ (k:=k) hkm;have HYY:=ac hyy;clear hyy;have hkm':(k:Int)<m:=om
    have hx0:xs.getD k 0=0:=by simp[cT,cH (show xs.length<=k by rw[HX.out.1];omega)]
    have HX0:=ac hx0;clear hx0;have HPI:Hid (((car:Int)+(y:Int))%4294967296=((((car+0+y)%4294967296:Nat)):Int)):=ac om
    go_wp2_with (at_builtin;rw[HPI.out];refine ia rfl _ _ rfl w _ _ zs rfl HO.out ((car+0+y)%4294967296) _ rfl om ?_)
    intro v' w1 hO;have HO1:=ac hO;clear hO;go_wp2
    go_roundw
    case rel=>exact⟨k+1,(car+0+y)/4294967296,_,om,by go_num,by go_num,om,HO1,ac (HS.out.step HX0.out HYY.out om hy4)⟩
    case measure=>simp[intOf];omega
   .have hkm':¬(k:Int)<m:=om
    have hci:(car:Int)%4294967296=(car:Int):=om
    go_wp2_with (at_builtin;refine ia rfl _ _ rfl w _ _ zs rfl HO.out car _ rfl om ?_)
    intro v' w1 hO;obtain⟨A',c',rfl⟩:=hO.slice;obtain⟨hU,hc⟩:=cG.ofOwn hO.1 (HS.out.lim.snoc om);have HU:=ac hU;have HB:=ac hO.2;have hv:aZ (zs++[car])=aZ xs+aZ ys:=by
     have h5:=HS.out.eq;rw[bR (l:=xs) (by rw[HX.out.1];omega),bR (l:=ys) (by rw[HY.out.1];omega)]at h5
     rw[iy,HS.out.len,<-h5,aA]
    have HV:=ac hv;clear hU hO hv;go_wp2;go_ret;exact⟨_,_,_,_,rfl,hc,by simp[hzl];omega,HU.out,HV.out,HB.out⟩

structure Be(xs ys zs:List Nat)(k bo:Nat):Prop where
 len:zs.length=k
 lim:nh zs
 eq:aZ zs+aZ (ys.take k)=aZ (xs.take k)+bo*4294967296^k
 bo:bo<=1
def Be.less(h:Be xs ys zs k bo)(d:xs.getD k 0=x)(e:ys.getD k 0=y)(l:x<4294967296)(m:y<4294967296)(n:x<bo+y) :
  Be xs ys (zs++[x+4294967296-(bo+y)]) (k+1) 1:=by
 have o:=h.bo;refine⟨by simp[h.len],h.lim.snoc om,?_,om⟩
 rw[iy,h.len,jg,jg,d,e,cb];have f:=h.eq;obtain⟨z,g⟩:∃z,x+4294967296-(bo+y)=z:=⟨_,rfl⟩;have i:z+bo+y=x+4294967296:=om
 rw[g];generalize (4294967296:Nat)^k=p at *;generalize aZ zs=a at *;generalize aZ (ys.take k)=b at *;generalize aZ (xs.take k)=c at *;have j:p*(z+bo+y)=p*(x+4294967296):=by rw[i]
 simp only[cg]at j;rw[aA bo p]at f;omega
def Be.more(h:Be xs ys zs k bo)(d:xs.getD k 0=x)(e:ys.getD k 0=y)(l:x<4294967296)(m:bo+y<=x) :
  Be xs ys (zs++[x-(bo+y)]) (k+1) 0:=by
 have n:=h.bo;refine⟨by simp[h.len],h.lim.snoc om,?_,om⟩
 rw[iy,h.len,jg,jg,d,e,cb];have f:=h.eq;obtain⟨z,g⟩:∃z,x-(bo+y)=z:=⟨_,rfl⟩;have i:z+bo+y=x:=om
 rw[g];generalize (4294967296:Nat)^k=p at *;generalize aZ zs=a at *;generalize aZ (ys.take k)=b at *;generalize aZ (xs.take k)=c at *;have j:p*(z+bo+y)=p*x:=by rw[i]
 simp only[cg]at j;rw[aA bo p]at f;omega
def lF(A B:Option Addr)(n m c d L:Nat)(xs ys:List Nat)(w:World)(hmn:m<=n)(hn:n<=2147483648)(hL:L<=w.heap.size)(hx:cG w L A n xs)(hy:cG w L B m ys)(hle:aZ ys<=aZ xs) :
  Calls ah 146 #[.slice A n c,.slice B m d] w (zq9 w (aZ xs-aZ ys) n):=by
 have HX:=ac hx;clear hx;have HY:=ac hy;clear hy;have HLE:=ac hle;clear hle
 go_enter func146,ntmps146
 go_wp2
 go_loopw [5,6,7] (fun ov cv iv wr=>∃(k bo:Nat) (zs:List Nat),k<=n/\iv=.int .i64 k/\cv=.int .u64 bo/\bo<=1/\Hid (AU w wr ov zs)/\Hid (Be xs ys zs k bo)) (fun _ _ iv _=>n-(intOf iv).toNat)
 case atStart=>exact⟨0,0,[],om,rfl,rfl,om,ac (AU.start w),ac ⟨rfl,by simp[nh],by simp[aZ],om⟩⟩
 case round =>
  obtain⟨k,bo,zs,hk,rfl,rfl,hbo,HO,HS⟩:=hrel;have hzl:=HS.out.len;have hk0:(0:Int)<=k:=om
  by_cases hkn:k<n
  .obtain⟨ad,x,rfl,hab,hxx,hx4,h1⟩:=(HX.out.below HO.out.2 hL).at_ (k:=k) hkn;have HXX:=ac hxx;clear hxx;have hkn':(k:Int)<n:=om
   by_cases hkm:k<m
   .obtain⟨bd,y,rfl,hbb,hyy,hy4,h2⟩:=(HY.out.below HO.out.2 hL).at_ (k:=k) hkm;have HYY:=ac hyy;clear hyy;have hkm':(k:Int)<m:=om
    by_cases hlt:x<bo+y
    .have hl2:(x:Int)<(bo:Int)+(y:Int):=om
     have HPI:Hid (IntKind.u64.wrap ((x:Int)-((bo:Int)+(y:Int)))%4294967296=(((x+4294967296-(bo+y):Nat)):Int)):=ac (by rw[cf];omega)
     have HPJ:Hid (((x:Int)-((bo:Int)+(y:Int)))%4294967296=(((x+4294967296-(bo+y):Nat)):Int)):=ac om
     go_wp2_with (at_builtin;(first|rw[HPI.out]|rw[HPJ.out]);refine ia rfl _ _ rfl w _ _ zs rfl HO.out (x+4294967296-(bo+y)) _ rfl om ?_)
     intro v' w1 hO;have HO1:=ac hO;clear hO;obtain⟨ad',x',e1,_,e2,_,h1'⟩:=(HX.out.below HO1.out.2 hL).at_ (k:=k) hkn
     cases e1
     rw[HXX.out]at e2;subst e2;go_wp2
     go_roundw
     case rel=>exact⟨k+1,1,_,om,by go_num,rfl,om,HO1,ac (HS.out.less HXX.out HYY.out hx4 (hy4) hlt)⟩
     case measure=>simp[intOf];omega
    .have hl2:¬(x:Int)<(bo:Int)+(y:Int):=om
     have HPI:Hid (IntKind.u64.wrap ((x:Int)-((bo:Int)+(y:Int)))%4294967296=(((x-(bo+y):Nat)):Int)):=ac (by rw[cf];omega)
     have HPJ:Hid ((x:Int)-((bo:Int)+(y:Int))=(((x-(bo+y):Nat)):Int)):=ac om
     go_wp2_with (at_builtin;(first|rw[HPI.out]|rw[HPJ.out]);refine ia rfl _ _ rfl w _ _ zs rfl HO.out (x-(bo+y)) _ rfl om ?_)
     intro v' w1 hO;have HO1:=ac hO;clear hO;obtain⟨ad',x',e1,_,e2,_,h1'⟩:=(HX.out.below HO1.out.2 hL).at_ (k:=k) hkn
     cases e1
     rw[HXX.out]at e2;subst e2;go_wp2
     go_roundw
     case rel=>exact⟨k+1,0,_,om,by go_num,rfl,om,HO1,ac (HS.out.more HXX.out HYY.out hx4 om)⟩
     case measure=>simp[intOf];omega
   .have hkm':¬(k:Int)<m:=om
    have hy0:ys.getD k 0=0:=by simp[cT,cH (show ys.length<=k by rw[HY.out.1];omega)]
    have HY0:=ac hy0;clear hy0;by_cases hlt:x<bo+0
    .have hl2:(x:Int)<(bo:Int):=om
     have HPI:Hid (IntKind.u64.wrap ((x:Int)-((bo:Int)))%4294967296=(((x+4294967296-(bo+0):Nat)):Int)):=ac (by rw[cf];omega)
     have HPJ:Hid (((x:Int)-((bo:Int)))%4294967296=(((x+4294967296-(bo+0):Nat)):Int)):=ac om
     go_wp2_with (at_builtin;(first|rw[HPI.out]|rw[HPJ.out]);refine ia rfl _ _ rfl w _ _ zs rfl HO.out (x+4294967296-(bo+0)) _ rfl om ?_)
     intro v' w1 hO;have HO1:=ac hO;clear hO;obtain⟨ad',x',e1,_,e2,_,h1'⟩:=(HX.out.below HO1.out.2 hL).at_ (k:=k) hkn
     cases e1
     rw[HXX.out]at e2;subst e2;go_wp2
     go_roundw
     case rel=>exact⟨k+1,1,_,om,by go_num,rfl,om,HO1,ac (HS.out.less HXX.out HY0.out hx4 om hlt)⟩
     case measure=>simp[intOf];omega
    .have hl2:¬(x:Int)<(bo:Int):=om
     have HPI:Hid (IntKind.u64.wrap ((x:Int)-((bo:Int)))%4294967296=(((x-(bo+0):Nat)):Int)):=ac (by rw[cf];omega)
     have HPJ:Hid ((x:Int)-((bo:Int))=(((x-(bo+0):Nat)):Int)):=ac om
     go_wp2_with (at_builtin;(first|rw[HPI.out]|rw[HPJ.out]);refine ia rfl _ _ rfl w _ _ zs rfl HO.out (x-(bo+0)) _ rfl om ?_)
     intro v' w1 hO;have HO1:=ac hO;clear hO;obtain⟨ad',x',e1,_,e2,_,h1'⟩:=(HX.out.below HO1.out.2 hL).at_ (k:=k) hkn
     cases e1
     rw[HXX.out]at e2;subst e2;go_wp2
     go_roundw
     case rel=>exact⟨k+1,0,_,om,by go_num,rfl,om,HO1,ac (HS.out.more HXX.out HY0.out hx4 om)⟩
     case measure=>simp[intOf];omega
  .have hkn':¬(k:Int)<n:=om
   obtain rfl:k=n:=om
   obtain⟨A',c',rfl⟩:=HO.out.slice;obtain⟨hU,hc⟩:=cG.ofOwn HO.out.1 HS.out.lim;rw[hzl]at hU hc;have HU:=ac hU;have HB:=ac HO.out.2;have hv:aZ zs=aZ xs-aZ ys:=by
    have h5:=HS.out.eq;rw[bR (l:=xs) (by rw[HX.out.1];omega),bR (l:=ys) (by rw[HY.out.1];omega)]at h5
    have h6:=HLE.out;have h7:=jr HS.out.lim;rw[HS.out.len]at h7;rcases a6 bo with h0|h0
    .subst h0;omega
    .obtain rfl:bo=1:=om
     omega
   have HV:=ac hv;clear hU hv;go_wp2;go_ret;exact⟨_,_,_,_,rfl,hc,om,HU.out,HV.out,HB.out⟩

end Go.Proofs.YtdobfmlmenaajaaGreatDoor
