/-
  Lemmas for NeighbourRaw.
-/
import Derived.Test.YtdobfmlmenaajaaGreatDoorH03
namespace Go.Proofs.YtdobfmlmenaajaaGreatDoor
open Go.RowKit Tryz
open _root_.List renaming replicate→bU,getD→cT
open Tryz renaming prog→ah
open Value renaming slice→ao,bool→aq
set_option maxHeartbeats 6400000
set_option maxRecDepth 4096
set_option linter.all false
variable{a:Int}{l ps xs zs:List Nat}{B D Q R V c i size x z:Nat}{A:Option Addr}{u:Value}{w w':World}
def CZ(va vb:Value)(za zb:Int)(B:Nat)(w:World)(hB:B<=w.heap.size)(ha:eJ w B va za)(hb:eJ w B vb zb)(sa:nl za.natAbs<=1073741824)(sb:nl zb.natAbs<=1073741824) :
  Calls ah 87 #[va,vb] w (dL w (za+zb)):=by
 obtain⟨s1,A,n,c,xs,rfl,hnc,hx,tx,rfl⟩:=ha;obtain⟨s2,D,m,d,ys,rfl,hmd,hy,ty,rfl⟩:=hb;rw[fP,<-aJ hx tx]at sa;rw[fP,<-aJ hy ty]at sb;have HX:=ac hx;clear hx;have HY:=ac hy;clear hy;have HTX:=ac tx;clear tx;have HTY:=ac ty;clear ty;have HNX:=ac (aJ HX.out HTX.out);have HNY:=ac (aJ HY.out HTY.out)
 go_enter func87,ntmps87
 go_wp2;obtain⟨hb0,k1,k2,k3⟩:=AB w #[aq s1,ao A n c] #[aq s2,ao D m d] #[aq false,ao none 0 0];generalize (((w.alloc (Obj.cells #[aq s1,ao A n c] 50)).alloc (Obj.cells #[aq s2,ao D m d] 50)).alloc (Obj.cells #[aq false,ao none 0 0] 50))=W at hb0 k1 k2 k3 ⊢;obtain⟨a0,a1⟩:=fm k1;obtain⟨b0,b1⟩:=fm k2;have HK3:=ac k3;clear k3 k1 k2;have HB0:=ac hb0;clear hb0;have hg2:w.heap.size+2<W.heap.size:=HK3.out.lt;have HS:=ac (show ∀w1,Below (w.heap.size+2) W w1->(w1.cell? ⟨w.heap.size,0,none⟩=some (.bool s1)/\w1.cell? ⟨w.heap.size,1,none⟩=some (.slice A n c)/\w1.cell? ⟨w.heap.size+1,0,none⟩=some (.bool s2)/\w1.cell? ⟨w.heap.size+1,1,none⟩=some (.slice D m d)/\Below (w.heap.size+2) W w1)from
  fun w1 h=>⟨(h.cell (by show w.heap.size<_;omega)).trans a0,(h.cell (by show w.heap.size<_;omega)).trans a1,(h.cell (by show w.heap.size+1<_;omega)).trans b0,(h.cell (by show w.heap.size+1<_;omega)).trans b1,h⟩)
 go_region_held3 (fun w'=>w'.cell? ⟨w.heap.size,0,none⟩=some (.bool s1)/\w'.cell? ⟨w.heap.size,1,none⟩=some (.slice A n c)/\w'.cell? ⟨w.heap.size+1,0,none⟩=some (.bool s2)/\w'.cell? ⟨w.heap.size+1,1,none⟩=some (.slice D m d)/\Below (w.heap.size+2) W w')
  (first|exact HS.out _ (aX _ _).drew|assumption|exact HS.out _ (by assumption))
  (first
   | (go_at_call_of 71 (ao A n c);refine(gI A n c B xs W.drew hnc om (by show B<=W.heap.size;omega) (HX.out.below HB0.out.drew hB)).mono ?_;rintro e w1 ⟨A1,j1,c1,z1,rfl,hj1,hU1,hT1,hv1,hbn⟩;obtain rfl:n=j1:=by { rw[aJ hU1 hT1,hv1];exact HNX.out };have hB1:Below (w.heap.size+2) W w1:=(aX _ W).drew.trans (hbn.mono (by show _<=W.heap.size;omega));have HBa:=ac hbn;clear hbn;have HU1:=ac hU1;clear hU1;have HT1:=ac hT1;clear hT1;have HV1:=ac hv1;clear hv1)
   | (go_at_call_of 71 (ao D m d);refine(gI D m d B ys w1 hmd om (by have:=HBa.out.size;have h2:W.drew.heap.size=W.heap.size:=rfl;omega) (HY.out.below (HB0.out.trans (hB1.mono om)) hB)).mono ?_;rintro e w2 ⟨A2,j2,c2,z2,rfl,hj2,hU2,hT2,hv2,hbn⟩;obtain rfl:m=j2:=by { rw[aJ hU2 hT2,hv2];exact HNY.out };have HBb:=ac hbn;clear hbn;have HU2:=ac hU2;clear hU2;have HT2:=ac hT2;clear hT2;have HV2:=ac hv2;clear hv2;have hB2:Below (w.heap.size+2) W w2:=hB1.trans (HBb.out.mono (by have:=hB1.size;omega))))
 have HB2:=ac hB2;clear hB2 hB1;have HU1':Hid (cG w2 w2.heap.size A1 n z1):=ac ((HU1.out.below HBb.out (ae _)).more HBb.out.size);have HKK:Hid (gC w2 (w.heap.size+2) 50 #[.bool false,.slice none 0 0]):=ac ((gC.below (w:=W.drew) HK3.out HBa.out hg2).below HBb.out (by have:=HBa.out.size;have h2:W.drew.heap.size=W.heap.size:=rfl;omega))
 have hz2:w.heap.size+2<w2.heap.size:=HKK.out.lt;obtain⟨c0,c1',c2',c3',_⟩:=HS.out _ HB2.out;clear a0 a1 b0 b1 HU1 HBa HBb;by_cases hs:s1=s2
 .subst hs;have hbq:(s1==s1)=true:=by simp
  go_wp2
  go_region_held3 (fun w'=>w'.cell? ⟨w.heap.size,0,none⟩=some (.bool s1)/\w'.cell? ⟨w.heap.size,1,none⟩=some (.slice A n c)/\w'.cell? ⟨w.heap.size+1,0,none⟩=some (.bool s1)/\w'.cell? ⟨w.heap.size+1,1,none⟩=some (.slice D m d)/\Below (w.heap.size+2) W w')
   (first|assumption|exact HS.out _ HB2.out.drew|exact HS.out _ (by assumption)|exact HS.out _ (eG (eG (by assumption) sm _) sm _))
   (first
    | (go_at_call 145;refine(O7 A1 A2 n m c1 c2 w2.heap.size z1 z2 w2.drew om om (ae _) HU1'.out HU2.out).mono ?_;rintro e w3 ⟨A3,j3,c3,z3,rfl,hj3,hl3,hU3,hv3,hbn⟩;have hB3:Below (w.heap.size+2) W w3:=HB2.out.drew.trans (hbn.mono (by show _<=w2.heap.size;omega));have HK5:=ac (gC.below (w:=w2.drew) HKK.out hbn hz2);clear hbn;have HU3:=ac hU3;clear hU3;have HV3:=ac hv3;clear hv3;have hz3:=HK5.out.lt)
    | (go_at_call 103;refine(lK s1 A3 j3 c3 w3.heap.size z3 w3 hj3 om (ae _) HU3.out).mono ?_;rintro e w4 ⟨v,rfl,hI,hbn⟩;obtain⟨neg,A4,n4,c4,z4,rfl,hI2⟩:=hI;have hB4:Below (w.heap.size+2) W w4:=hB3.trans (hbn.mono om);have HI:=ac hI2;clear hI2;have hk3:=HK5.out.below hbn hz3;obtain⟨e0,e1⟩:=fm hk3;have f0:=hk3.frozen 0;have f1:=hk3.frozen 1;have HK4:=ac hk3;clear hk3 hbn))
  go_wp2;exact cI (v:=.agg #[.bool neg,.slice A4 n4 c4]) (by simp[results,UZ,go_sem,e0,e1]) rfl
   (dL.cell ⟨neg,A4,n4,c4,z4,rfl,HI.out⟩ HK4.out (HB0.out.trans (hB4.mono om)) om (by rw[HV3.out,HV1.out,HV2.out,xr]))
 .have hbq:(s1==s2)=false:=by simpa using hs
  rcases aC (aZ xs) (aZ ys)with hlt|hge
  .have HCM:Hid (li (aZ z1) (aZ z2)=-1):=ac (by rw[HV1.out,HV2.out];exact lH hlt)
   have hjj:n<=m:=by rw[HNX.out,HNY.out];exact fT (dB hlt)
   have HLE:Hid (aZ z1<=aZ z2):=ac (by rw[HV1.out,HV2.out];omega)
   have HLT:=ac hlt;clear hlt
   go_wp2_with fail
   refine(ma A1 A2 n m c1 c2 w2.heap.size z1 z2 w2 om om HU1'.out HU2.out HT1.out HT2.out).mono ?_;rintro e w5 ⟨rfl,hst⟩;rw[HCM.out];obtain⟨q,rfl⟩:=hst;have HU1q:Hid (cG (w2.drewN q) (w2.drewN q).heap.size A1 n z1):=ac HU1'.out;have HU2q:Hid (cG (w2.drewN q) (w2.drewN q).heap.size A2 m z2):=ac HU2.out;have HKq:Hid (gC (w2.drewN q) (w.heap.size+2) 50 #[.bool false,.slice none 0 0]):=ac HKK.out;have HB2q:Hid (Below (w.heap.size+2) W (w2.drewN q)):=ac (HB2.out.trans ((d9.refl w2).more q |>.below _))
   have hzq:w.heap.size+2<(w2.drewN q).heap.size:=hz2;generalize w2.drewN q=wq at HU1q HU2q HKq HB2q hzq ⊢;obtain⟨q0,q1,q2,q3,_⟩:=HS.out _ HB2q.out;clear HB2 HU1' HKK hz2 c0 c1' c2' c3' HU2;go_wp2
   go_region_held3 (fun w'=>w'.cell? ⟨w.heap.size,0,none⟩=some (.bool s1)/\w'.cell? ⟨w.heap.size,1,none⟩=some (.slice A n c)/\w'.cell? ⟨w.heap.size+1,0,none⟩=some (.bool s2)/\w'.cell? ⟨w.heap.size+1,1,none⟩=some (.slice D m d)/\Below (w.heap.size+2) W w')
    (first|assumption|exact HS.out _ HB2q.out.drew|exact HS.out _ (by assumption)|exact HS.out _ (eG (eG (by assumption) sm _) sm _))
    (first
     | (go_at_call 146;refine(lF A2 A1 m n c2 c1 wq.heap.size z2 z1 wq.drew hjj om (ae _) HU2q.out HU1q.out HLE.out).mono ?_;rintro e w3 ⟨A3,j3,c3,z3,rfl,hj3,hl3,hU3,hv3,hbn⟩;have hB3:Below (w.heap.size+2) W w3:=HB2q.out.drew.trans (hbn.mono (by show _<=wq.heap.size;omega));have HK5:=ac (gC.below (w:=wq.drew) HKq.out hbn hzq);clear hbn;have HU3:=ac hU3;clear hU3;have HV3:=ac hv3;clear hv3;have hz3:=HK5.out.lt)
     | (go_at_call 103;refine(lK s2 A3 j3 c3 w3.heap.size z3 w3 hj3 om (ae _) HU3.out).mono ?_;rintro e w4 ⟨v,rfl,hI,hbn⟩;obtain⟨neg,A4,n4,c4,z4,rfl,hI2⟩:=hI;have hB4:Below (w.heap.size+2) W w4:=hB3.trans (hbn.mono om);have HI:=ac hI2;clear hI2;have hk3:=HK5.out.below hbn hz3;obtain⟨e0,e1⟩:=fm hk3;have f0:=hk3.frozen 0;have f1:=hk3.frozen 1;have HK4:=ac hk3;clear hk3 hbn))
   go_wp2;exact cI (v:=.agg #[.bool neg,.slice A4 n4 c4]) (by simp[results,UZ,go_sem,e0,e1]) rfl
    (dL.cell ⟨neg,A4,n4,c4,z4,rfl,HI.out⟩ HK4.out (HB0.out.trans (hB4.mono om)) om (by rw[HV3.out,HV1.out,HV2.out];exact Cg hs (dB HLT.out)))
  .have HCM:Hid (0<=li (aZ z1) (aZ z2)):=ac (by
    rw[HV1.out,HV2.out];rcases aC (aZ ys) (aZ xs)with h|h
    .rw[kA h];omega
    .rw[lI om];omega)
   have hjj:m<=n:=by rw[HNX.out,HNY.out];exact fT hge
   have HLE:Hid (aZ z2<=aZ z1):=ac (by rw[HV1.out,HV2.out];omega)
   have HGE:=ac hge;clear hge
   go_wp2_with fail
   refine(ma A1 A2 n m c1 c2 w2.heap.size z1 z2 w2 om om HU1'.out HU2.out HT1.out HT2.out).mono ?_;rintro e w5 ⟨rfl,hst⟩;have hcm:=HCM.out;have hcm2:=(qe (aZ z1) (aZ z2)).2;generalize li (aZ z1) (aZ z2)=cm at hcm hcm2 ⊢;obtain⟨q,rfl⟩:=hst;have HU1q:Hid (cG (w2.drewN q) (w2.drewN q).heap.size A1 n z1):=ac HU1'.out;have HU2q:Hid (cG (w2.drewN q) (w2.drewN q).heap.size A2 m z2):=ac HU2.out;have HKq:Hid (gC (w2.drewN q) (w.heap.size+2) 50 #[.bool false,.slice none 0 0]):=ac HKK.out;have HB2q:Hid (Below (w.heap.size+2) W (w2.drewN q)):=ac (HB2.out.trans ((d9.refl w2).more q |>.below _))
   have hzq:w.heap.size+2<(w2.drewN q).heap.size:=hz2;generalize w2.drewN q=wq at HU1q HU2q HKq HB2q hzq ⊢;obtain⟨q0,q1,q2,q3,_⟩:=HS.out _ HB2q.out;clear HB2 HU1' HKK hz2 c0 c1' c2' c3' HU2;go_wp2
   go_region_held3 (fun w'=>w'.cell? ⟨w.heap.size,0,none⟩=some (.bool s1)/\w'.cell? ⟨w.heap.size,1,none⟩=some (.slice A n c)/\w'.cell? ⟨w.heap.size+1,0,none⟩=some (.bool s2)/\w'.cell? ⟨w.heap.size+1,1,none⟩=some (.slice D m d)/\Below (w.heap.size+2) W w')
    (first|assumption|exact HS.out _ HB2q.out.drew|exact HS.out _ (by assumption)|exact HS.out _ (eG (eG (by assumption) sm _) sm _))
    (first
     | (go_at_call 146;refine(lF A1 A2 n m c1 c2 wq.heap.size z1 z2 wq.drew hjj om (ae _) HU1q.out HU2q.out HLE.out).mono ?_;rintro e w3 ⟨A3,j3,c3,z3,rfl,hj3,hl3,hU3,hv3,hbn⟩;have hB3:Below (w.heap.size+2) W w3:=HB2q.out.drew.trans (hbn.mono (by show _<=wq.heap.size;omega));have HK5:=ac (gC.below (w:=wq.drew) HKq.out hbn hzq);clear hbn;have HU3:=ac hU3;clear hU3;have HV3:=ac hv3;clear hv3;have hz3:=HK5.out.lt)
     | (go_at_call 103;refine(lK s1 A3 j3 c3 w3.heap.size z3 w3 hj3 om (ae _) HU3.out).mono ?_;rintro e w4 ⟨v,rfl,hI,hbn⟩;obtain⟨neg,A4,n4,c4,z4,rfl,hI2⟩:=hI;have hB4:Below (w.heap.size+2) W w4:=hB3.trans (hbn.mono om);have HI:=ac hI2;clear hI2;have hk3:=HK5.out.below hbn hz3;obtain⟨e0,e1⟩:=fm hk3;have f0:=hk3.frozen 0;have f1:=hk3.frozen 1;have HK4:=ac hk3;clear hk3 hbn))
   go_wp2;exact cI (v:=.agg #[.bool neg,.slice A4 n4 c4]) (by simp[results,UZ,go_sem,e0,e1]) rfl
    (dL.cell ⟨neg,A4,n4,c4,z4,rfl,HI.out⟩ HK4.out (HB0.out.trans (hB4.mono om)) om (by rw[HV3.out,HV1.out,HV2.out];exact vO hs HGE.out))

def LL(va vb:Value)(za zb:Int)(B:Nat)(w:World)(hB:B<=w.heap.size)(ha:eJ w B va za)(hb:eJ w B vb zb)(sa:nl za.natAbs<=1073741824)(sb:nl zb.natAbs<=1073741824) :
  Calls ah 66 #[va,vb] w (dL w (za-zb)):=by
 have HA:=ac ha;have HBv:=ac hb;have HSA:=ac sa;clear sa;have HSB:=ac sb;clear sb;obtain⟨s1,A,n,c,xs,rfl,hnc,hx,tx,rfl⟩:=ha;obtain⟨s2,D,m,d,ys,rfl,hmd,hy,ty,rfl⟩:=hb;clear hx tx hy ty
 go_enter func66,ntmps66
 go_wp2;obtain⟨hb0,k1,k2,k3⟩:=AB w #[aq s1,ao A n c] #[aq s2,ao D m d] #[aq false,ao none 0 0];generalize (((w.alloc (Obj.cells #[aq s1,ao A n c] 50)).alloc (Obj.cells #[aq s2,ao D m d] 50)).alloc (Obj.cells #[aq false,ao none 0 0] 50))=W at hb0 k1 k2 k3 ⊢;obtain⟨a0,a1⟩:=fm k1;obtain⟨b0,b1⟩:=fm k2;have HK3:=ac k3;clear k3 k1 k2;have HB0:=ac hb0;clear hb0;have hg2:w.heap.size+2<W.heap.size:=HK3.out.lt;have HS:=ac (show ∀w1,Below (w.heap.size+2) W w1->(w1.cell? ⟨w.heap.size,0,none⟩=some (.bool s1)/\w1.cell? ⟨w.heap.size,1,none⟩=some (.slice A n c)/\w1.cell? ⟨w.heap.size+1,0,none⟩=some (.bool s2)/\w1.cell? ⟨w.heap.size+1,1,none⟩=some (.slice D m d)/\Below (w.heap.size+2) W w1)from
  fun w1 h=>⟨(h.cell (by show w.heap.size<_;omega)).trans a0,(h.cell (by show w.heap.size<_;omega)).trans a1,(h.cell (by show w.heap.size+1<_;omega)).trans b0,(h.cell (by show w.heap.size+1<_;omega)).trans b1,h⟩)
 go_region_held3 (fun w'=>w'.cell? ⟨w.heap.size,0,none⟩=some (.bool s1)/\w'.cell? ⟨w.heap.size,1,none⟩=some (.slice A n c)/\w'.cell? ⟨w.heap.size+1,0,none⟩=some (.bool s2)/\w'.cell? ⟨w.heap.size+1,1,none⟩=some (.slice D m d)/\Below (w.heap.size+2) W w')
  (first|exact HS.out _ (aX _ _).drew|assumption|exact HS.out _ (by assumption)|exact HS.out _ (eG (eG (by assumption) sm _) sm _))
  (first
   | (go_at_call 68;refine(CQ _ _ B W.drew (by show B<=W.heap.size;omega) (HBv.out.below HB0.out.drew hB) (by have:=HSB.out;omega)).mono ?_;rintro e w1 ⟨v,rfl,hI1,hbn⟩;have HI1:=ac hI1;clear hI1;have hB1:Below (w.heap.size+2) W w1:=(aX _ W).drew.trans (hbn.mono (by show _<=W.heap.size;omega));have HK2:=ac (gC.below (w:=W.drew) HK3.out hbn hg2);clear hbn;have hsz:=HK2.out.lt)
   | (go_at_call 87;refine(CZ _ _ _ _ w1.heap.size w1 (ae _) ((HA.out.below (HB0.out.trans (hB1.mono om)) hB).more om) HI1.out HSA.out (by rw[Vo];exact HSB.out)).mono ?_;rintro e w2 ⟨v,rfl,hI,hbn⟩;obtain⟨neg,A2,n2,c2,zs2,rfl,hI2⟩:=hI;have hB2:Below (w.heap.size+2) W w2:=hB1.trans (hbn.mono om);have HI:=ac hI2;clear hI2;have hk3:=HK2.out.below hbn hsz;obtain⟨e0,e1⟩:=fm hk3;have f0:=hk3.frozen 0;have f1:=hk3.frozen 1;have HK4:=ac hk3;clear hk3 hbn))
 go_wp2;exact cI (v:=.agg #[.bool neg,.slice A2 n2 c2]) (by simp[results,results66,go_sem,e0,e1]) rfl
   (dL.cell ⟨neg,A2,n2,c2,zs2,rfl,HI.out⟩ HK4.out (HB0.out.trans (hB2.mono om)) om om)
def L0(va vb:Value)(za zb:Int)(B:Nat)(w:World)(hB:B<=w.heap.size)(ha:eJ w B va za)(hb:eJ w B vb zb)(sa:nl za.natAbs<=1073741824)(sb:nl zb.natAbs<=1073741824) :
  Calls ah 30 #[va,vb] w fun e w'=>e=.returned (.int .i64 (lG za zb))/\Below w.heap.size w w':=by
 have hA:=ha;have hBb:=hb;have HS0:=ac sa;have HS1:=ac sb;obtain⟨s1,A,n,c,xs,rfl,hnc,hx,tx,rfl⟩:=ha;obtain⟨s2,D,m,d,ys,rfl,hmd,hy,ty,rfl⟩:=hb;rw[fP,<-aJ hx tx]at sa;rw[fP,<-aJ hy ty]at sb;have HA:=ac hA;clear hA;have HBb:=ac hBb;clear hBb;have HX:=ac hx;clear hx;have HY:=ac hy;clear hy;have HTX:=ac tx;clear tx;have HTY:=ac ty;clear ty;have HZ:=ac (@At (sg s1 (aZ xs)) (sg s2 (aZ ys)));have HZ2:=ac (@CC s1 s2 (aZ xs) (aZ ys));have HP:Hid (-1<=(sg s1 (aZ xs)).sign/\(sg s1 (aZ xs)).sign<=1):=ac (by rcases nO s1 (aZ xs)with h|h|h<;>omega)
 generalize hp:(sg s1 (aZ xs)).sign=p at HZ HZ2 HP;generalize hq:(sg s2 (aZ ys)).sign=q at HZ HZ2;generalize hcz:lG (sg s1 (aZ xs)) (sg s2 (aZ ys))=r at HZ HZ2 ⊢;have hcr:=qe (aZ xs) (aZ ys);generalize hcm:li (aZ xs) (aZ ys)=cm at HZ2 hcr;have Hp:=ac hp;clear hp;have Hq:=ac hq;clear hq;have Hcm:=ac hcm;clear hcm;clear hcz
 go_enter func30,ntmps30
 go_wp2;obtain⟨hb0,k1,k2⟩:=ru w #[aq s1,ao A n c] #[aq s2,ao D m d];generalize ((w.alloc (Obj.cells #[aq s1,ao A n c] 50)).alloc (Obj.cells #[aq s2,ao D m d] 50))=W at hb0 k1 k2 ⊢;obtain⟨a0,a1⟩:=fm k1;obtain⟨b0,b1⟩:=fm k2;have HB0:=ac hb0;clear hb0;have hg2:w.heap.size+1<W.heap.size:=k2.lt;have hg1:w.heap.size+2<=W.heap.size:=hg2;clear k1 k2;have HS:=ac (show ∀w1,Below (w.heap.size+2) W w1->(w1.cell? ⟨w.heap.size,0,none⟩=some (.bool s1)/\w1.cell? ⟨w.heap.size,1,none⟩=some (.slice A n c)/\w1.cell? ⟨w.heap.size+1,0,none⟩=some (.bool s2)/\w1.cell? ⟨w.heap.size+1,1,none⟩=some (.slice D m d)/\Below (w.heap.size+2) W w1)from
  fun w1 h=>⟨(h.cell (by show w.heap.size<_;omega)).trans a0,(h.cell (by show w.heap.size<_;omega)).trans a1,(h.cell (by show w.heap.size+1<_;omega)).trans b0,(h.cell (by show w.heap.size+1<_;omega)).trans b1,h⟩)
 go_region_held3 (fun w'=>w'.cell? ⟨w.heap.size,0,none⟩=some (.bool s1)/\w'.cell? ⟨w.heap.size,1,none⟩=some (.slice A n c)/\w'.cell? ⟨w.heap.size+1,0,none⟩=some (.bool s2)/\w'.cell? ⟨w.heap.size+1,1,none⟩=some (.slice D m d)/\Below (w.heap.size+2) W w')
  (first|exact HS.out _ (aX _ _).drew|assumption|exact HS.out _ (by assumption))
  (first
   | (go_at_call_of 64 (Value.agg #[aq s1,ao A n c]);refine(tg _ _ B W.drew (by show B<=W.heap.size;omega) (HA.out.below HB0.out.drew hB) (by have:=HS0.out;omega)).mono ?_;rintro e w1 ⟨rfl,hbn⟩;rw[Hp.out];have hB1:Below (w.heap.size+2) W w1:=(aX _ W).drew.trans (hbn.mono hg1);clear hbn)
   | (go_at_call_of 64 (Value.agg #[aq s2,ao D m d]);refine(tg _ _ B w1 (by have:=hB1.size;omega) (HBb.out.below (HB0.out.trans (hB1.mono om)) hB) (by have:=HS1.out;omega)).mono ?_;rintro e w2 ⟨rfl,hbn⟩;rw[Hq.out];have hB2:Below (w.heap.size+2) W w2:=hB1.trans (hbn.mono (by have:=hB1.size;omega));clear hbn hB1))
 have HB2:=ac hB2;obtain⟨c0,c1,c2,c3,_⟩:=HS.out _ hB2;clear hB2 a0 a1 b0 b1;rcases fF p q with hlt|heq|hgt
 .have HR:=ac (HZ.out.1 hlt);have hne:(p != q)=true:=by simp;omega
  have hne2:¬p=q:=om
  go_wp2;go_ret;exact⟨by rw[HR.out];rfl,HB0.out.trans (HB2.out.mono om)⟩
 .subst heq;have HR:=ac (HZ2.out rfl);have HNX:=ac (aJ HX.out HTX.out);have HNY:=ac (aJ HY.out HTY.out);have hz2:w.heap.size+2<=w2.heap.size:=by have:=HB2.out.size;omega
  have HC:=ac (show ∀w1,Below (w.heap.size+2) W w1->w1.cell? ⟨w.heap.size,1,none⟩=some (.slice A n c)/\w1.cell? ⟨w.heap.size+1,1,none⟩=some (.slice D m d)/\Below (w.heap.size+2) W w1 from fun w1 h=>⟨(HS.out w1 h).2.1,(HS.out w1 h).2.2.2.1,h⟩);have hp3:p=-1∨p=0∨p=1:=by have:=HP.out;omega
  clear HZ HZ2;rcases hp3 with rfl|rfl|rfl
  all_goals
   go_wp2
   go_region_held3 (fun w'=>w'.cell? ⟨w.heap.size,1,none⟩=some (.slice A n c)/\w'.cell? ⟨w.heap.size+1,1,none⟩=some (.slice D m d)/\Below (w.heap.size+2) W w')
    (first|assumption|exact HC.out _ HB2.out.drew|exact HC.out _ (by assumption))
    (first
     | (go_at_call_of 71 (ao A n c);refine(gI A n c B xs w2.drew hnc om (by show B<=w2.heap.size;omega) (HX.out.below (HB0.out.trans (HB2.out.mono om)).drew hB)).mono ?_;rintro e w3 ⟨A1,j1,c1,z1,rfl,hj1,hU1,hT1,hv1,hbn⟩;obtain rfl:n=j1:=by { rw[aJ hU1 hT1,hv1];exact HNX.out };have hB3:Below (w.heap.size+2) W w3:=HB2.out.drew.trans (hbn.mono (by show _<=w2.heap.size;omega));clear hbn;have HU1:=ac hU1;clear hU1;have HT1:=ac hT1;clear hT1;have HV1:=ac hv1;clear hv1)
     | (go_at_call_of 71 (ao D m d);refine(gI D m d B ys w3 hmd om (by have:=hB3.size;omega) (HY.out.below (HB0.out.trans (hB3.mono om)) hB)).mono ?_;rintro e w4 ⟨A2,j2,c2,z2,rfl,hj2,hU2,hT2,hv2,hbn⟩;obtain rfl:m=j2:=by { rw[aJ hU2 hT2,hv2];exact HNY.out };have HBb:=ac hbn;clear hbn;have HU2:=ac hU2;clear hU2;have HT2:=ac hT2;clear hT2;have HV2:=ac hv2;clear hv2;have hB4:Below (w.heap.size+2) W w4:=hB3.trans (HBb.out.mono (by have:=hB3.size;omega)))
     | (go_at_call 70;refine(ma A1 A2 n m c1 c2 w4.heap.size z1 z2 w4 om om ((HU1.out.below HBb.out (ae _)).more HBb.out.size) HU2.out HT1.out HT2.out).mono ?_;rintro e w5 ⟨rfl,hst⟩;rw[HV1.out,HV2.out,Hcm.out];have hB5:Below (w.heap.size+2) W w5:=hB4.trans (hst.below _);clear hst))
   go_wp2;go_ret;exact⟨by rw[<-HR.out];first|rfl|(simp;first|done|exact DK om om),HB0.out.trans (hB5.mono om)⟩
 .have HR:=ac (HZ.out.2 hgt);have hn:¬p<q:=om
  have hne:(p != q)=true:=by simp;omega
  have hne2:¬p=q:=om
  go_wp2;go_ret;exact⟨by rw[HR.out];rfl,HB0.out.trans (HB2.out.mono om)⟩

def yC(A:Option Addr)(n c L:Nat)(xs:List Nat)(w:World)(hn:n<=2)(hx:cG w L A n xs) :
  Calls ah 128 #[.slice A n c] w fun e w'=>e=.returned (.int .u64 (aZ xs))/\w=w':=by
 have HX:=ac hx;clear hx
 go_enter func128,ntmps128
 go_wp2
 go_loop [3,4] (fun v i=>∃k:Nat,k<=n/\i=.int .i64 k/\v=.int .u64 (aZ (xs.take k))) (fun _ i=>n-(intOf i).toNat)
 case atStart=>exact⟨0,jM _,rfl,by simp[aZ]⟩
 case round =>
  obtain⟨k,hk,rfl,rfl⟩:=hrel;by_cases hkn:k<n
  .obtain⟨ad,x,rfl,_,hxx,hx4,h1⟩:=HX.out.at_ hkn;have HXX:=ac hxx;clear hxx;have hv:=jr (HX.out.2.1.take k);have hk2:k=0∨k=1:=om
   rcases hk2 with rfl|rfl
   .simp only[Addr.add,ai]at h1;have hn0:(0:Int)<n:=om
    go_wp2;refine⟨⟨1,om,rfl,?_⟩,by simp[intOf];omega⟩
    have hx1:xs.take 1=[x]:=by
     rw[nJ (by rw[HX.out.1];omega)]
     have:=HXX.out;simp only[cT,a8 (show 0<xs.length by rw[HX.out.1];omega),fW]at this
     simp[this]
    rw[hx1];have h5:=yc 0 x om om;simp only[Nat.zero_or]at h5;simpa [aZ]using h5
   .simp only[Addr.add,Va,aS]at h1;have hn0:(1:Int)<n:=om
    go_wp2;refine⟨⟨2,om,rfl,?_⟩,by simp[intOf];omega⟩
    rw[en xs 1 (by rw[HX.out.1];omega),HXX.out]
    simp only[gS]at hv;rw[zp (dF hv (by
     rw[HX.out.1,ir om];omega)) hx4,Uy,aA x]
  .obtain rfl:k=n:=om
   have hkk:¬(k:Int)<k:=om
   go_wp2;go_ret;exact⟨by rw[bR (by rw[HX.out.1];exact ae _)];rfl,rfl⟩
def LO(va vb:Value)(za zb:Int)(B:Nat)(w:World)(hB:B<=w.heap.size)(ha:eJ w B va za)(hb:eJ w B vb zb)(sa:nl za.natAbs<=268435456)(sb:nl zb.natAbs<=268435456) :
  Calls ah 67 #[va,vb] w (dL w (za*zb)):=by
 obtain⟨s1,A,n,c,xs,rfl,hnc,hx,tx,rfl⟩:=ha;obtain⟨s2,D,m,d,ys,rfl,hmd,hy,ty,rfl⟩:=hb;rw[fP,<-aJ hx tx]at sa;rw[fP,<-aJ hy ty]at sb;have HX:=ac hx;clear hx;have HY:=ac hy;clear hy;clear tx ty;have hmk:=DD (n+m) om;rw[eB]at hmk
 go_enter func67,ntmps67
 go_wp2;clear hmk;obtain⟨hb0,k1,k2,k3⟩:=AB w #[aq s1,ao A n c] #[aq s2,ao D m d] #[aq false,ao none 0 0];have hWs:(((w.alloc (Obj.cells #[aq s1,ao A n c] 50)).alloc (Obj.cells #[aq s2,ao D m d] 50)).alloc (Obj.cells #[aq false,ao none 0 0] 50)).heap.size=w.heap.size+1+1+1:=by simp
 generalize (((w.alloc (Obj.cells #[aq s1,ao A n c] 50)).alloc (Obj.cells #[aq s2,ao D m d] 50)).alloc (Obj.cells #[aq false,ao none 0 0] 50))=W at hb0 k1 k2 k3 hWs ⊢;rw[<-hWs];have HK1:=ac k1;clear k1;have HK2:=ac k2;clear k2;have HK3:=ac k3;clear k3;have HB0:=ac hb0;clear hb0;have hWs2:w.heap.size+3=W.heap.size:=om
 have HXW:Hid (cG W B A n xs):=ac (HX.out.below HB0.out hB);have HYW:Hid (cG W B D m ys):=ac (HY.out.below HB0.out hB);have HL:Hid (B<=W.heap.size):=ac om;have HCC:Hid (∀wr,Below W.heap.size W wr->(wr.cell? ⟨w.heap.size,0,none⟩=some (.bool s1)/\wr.cell? ⟨w.heap.size,1,none⟩=some (.slice A n c))/\(wr.cell? ⟨w.heap.size+1,0,none⟩=some (.bool s2)/\wr.cell? ⟨w.heap.size+1,1,none⟩=some (.slice D m d))):=ac (fun wr h=>⟨fm (HK1.out.below h om),fm (HK2.out.below h om)⟩);have HWS:=ac hWs;clear hWs;have HWS2:=ac hWs2;clear hWs2
 go_loopw [22] (fun iv wr=>∃(i:Nat) (ps:List Nat),i<=n/\iv=.int .i64 i/\Hid (iA W wr ps)/\Hid (kM ps xs ys i)) (fun iv _=>n-(intOf iv).toNat)
 case atStart=>exact⟨0,_,om,rfl,ac (iA.start W (n+m)),ac (kM.init xs ys (n+m) (by rw[HX.out.1,HY.out.1]))⟩
 case round =>
  obtain⟨i,ps,hi,rfl,HF,HS⟩:=hrel;obtain⟨⟨q0,q1⟩,⟨q2,q3⟩⟩:=HCC.out _ HF.out.1;by_cases hin:i<n
  .obtain⟨ad,x,rfl,hab,hxx,hx4,hcx⟩:=(HXW.out.below HF.out.1 HL.out).at_ (k:=i) om;have HXX:=ac hxx;clear hxx;have hin':(i:Int)<n:=om
   have hi0:(0:Int)<=i:=om
   go_wp2
   go_loopw [8,30] (fun cv jv wr'=>∃(j car:Nat) (qs:List Nat),j<=m/\jv=.int .i64 j/\cv=.int .u64 car/\car<4294967296/\Hid (iA W wr' qs)/\Hid (sI ps qs ys x i j car)) (fun _ jv _=>m-(intOf jv).toNat)
   case atStart=>exact⟨0,0,ps,om,rfl,rfl,om,HF,ac HS.out.start⟩
   case round =>
    clear HF hcx q0 q1 q2 q3;obtain⟨j,car,qs,hj,rfl,rfl,hcar,HG,HI⟩:=hrel;have hql:qs.length=n+m:=by rw[HI.out.len,HS.out.len,HX.out.1,HY.out.1]
    obtain⟨⟨q0,q1⟩,⟨q2,q3⟩⟩:=HCC.out _ HG.out.1;by_cases hjm:j<m
    .obtain⟨bd,y,rfl,hbb,hyy,hy4,hcy⟩:=(HYW.out.below HG.out.1 HL.out).at_ (k:=j) om;have HYY:=ac hyy;clear hyy;obtain⟨hcp,hfp⟩:=HG.out.at_ (i+j) om;have hp4:=HI.out.lim.getD (i+j);generalize hpp:qs.getD (i+j) 0=p at hcp hp4;have HPP:=ac hpp;clear hpp;obtain⟨z,hz,hz4⟩:∃z:Nat,x*y=z/\z<=18446744065119617025:=⟨_,rfl,nT hx4 hy4⟩;have hzi:(x:Int)*(y:Int)=(z:Int):=by rw[<-hz];simp
     have HZ:=ac hz;clear hz;have hjm':(j:Int)<m:=om
     have hj0:(0:Int)<=j:=om
     have hij:(i:Int)+j<n+m:=om
     have hij0:(0:Int)<=(i:Int)+j:=om
     have hIJ:((i:Int)+(j:Int)).toNat=i+j:=om
     go_wp2
     go_roundw
     case rel =>
      have h5:=HI.out.step (by rw[HY.out.1];exact hjm) om HYY.out HPP.out hx4 hy4 hp4
      have h6:=HG.out.put (i+j) ((car+(x*y+p))%4294967296);rw[HZ.out]at h5 h6;exact⟨j+1,(car+(z+p))/4294967296,_,om,by go_num,by go_num,om,ac (by simpa using h6),ac h5⟩
     case measure=>simp[intOf];omega
    .obtain rfl:j=m:=om
     obtain⟨hcp,hfp⟩:=HG.out.at_ (i+j) om;have HN:=ac (HS.out.next HI.out HY.out.1 (by rw[HX.out.1];exact hin) HXX.out)
     have HP:=ac (HG.out.put (i+j) car);have hj0:(0:Int)<=j:=om
     have hij:(i:Int)+j<n+j:=om
     have hij0:(0:Int)<=(i:Int)+j:=om
     have hIJ:((i:Int)+(j:Int)).toNat=i+j:=om
     go_wp2
     go_roundw
     case rel=>exact⟨i+1,_,om,by go_num,ac (by simpa using HP.out),HN⟩
     case measure=>simp[intOf];omega
  .obtain rfl:i=n:=om
   have hii:¬(i:Int)<i:=om
   go_wp2_with fail
   have hl:=HS.out.len;rw[HX.out.1,HY.out.1]at hl;have hU:=cG.ofBlk HF.out.2 HS.out.lim HF.out.2.lt rfl;rw[hl]at hU;have hv:=HS.out.eq;rw[bR (by rw[HX.out.1];exact ae _)]at hv
   have HBn:=ac HF.out.1;have HK:Hid (gC wr (w.heap.size+2) 50 #[.bool false,.slice none 0 0]):=ac (HK3.out.below HBn.out (by have:=HWS2.out;omega))
   have HV:=ac hv;clear hv;have hwr:w.heap.size+3<=wr.heap.size:=by have:=HBn.out.size;have:=HWS2.out;omega
   have HBW:Hid (Below w.heap.size w wr):=ac (HB0.out.trans (HBn.out.mono (by have:=HWS2.out;omega)))
   refine(lK (s1 != s2) _ _ _ _ _ _ (ae _) om (ae _) hU).mono ?_;clear hU hl;rintro e w2 ⟨v,rfl,hI,hb2⟩;obtain⟨neg,A2,n2,c2,zs2,rfl,hI2⟩:=hI;have hblk:gC w2 (w.heap.size+2) 50 #[.bool false,.slice none 0 0]:=gC.below (w:=wr) HK.out hb2 om;obtain⟨e0,e1⟩:=fm hblk;have f0:=hblk.frozen 0;have f1:=hblk.frozen 1;have HK2:=ac hblk;clear hblk;have HI:=ac hI2;clear hI2;have HB2:=ac hb2;clear hb2;go_wp2;exact cI (v:=.agg #[.bool neg,.slice A2 n2 c2]) (by simp[results,results67,go_sem,e0,e1]) rfl
    (dL.cell ⟨neg,A2,n2,c2,zs2,rfl,HI.out⟩ HK2.out (HBW.out.trans (HB2.out.mono (by first|omega|(simp;done)|(simp;omega)))) om (by rw[HV.out,ML]))

def En(va:Value)(za:Int)(B:Nat)(w:World)(hB:B<=w.heap.size)(ha:eJ w B va za)(hz:jk za) :
  Calls ah 72 #[va] w fun e w'=>e=.returned (.tuple #[.int .i64 za,.bool true])/\Below w.heap.size w w':=by
 obtain⟨s1,A,n,c,xs,rfl,hnc,hx,tx,rfl⟩:=ha;obtain⟨hz1,hz2⟩:=hz;have hn:n<=2:=by
  rw[aJ hx tx];refine jS.2 ?_;have:(sg s1 (aZ xs)).natAbs=aZ xs:=fP s1 (aZ xs);omega
 have hb0:=(aX w.heap.size w).alloc (ae _) (Obj.cells #[aq s1,ao A n c] 50);have HU:=ac (hx.below hb0 hB);have HN:=ac (aJ hx tx);have HX:=ac hx;clear hx;have HTX:=ac tx;clear tx;have HB:=ac hb0;clear hb0;have HK:=ac (gC.new w 50 #[aq s1,ao A n c])
 cases s1
 .have hv:(sg false (aZ xs))=(aZ xs:Int):=by simp[sg]
  rw[hv]at hz1 hz2 ⊢;clear hv;generalize hvv:aZ xs=v at hz1 hz2 ⊢;have HV:=ac hvv;clear hvv
  go_enter func72,ntmps72
  go_wp2_with fail
  refine(gI A n c B xs _ hnc om (by simp;omega) HU.out).mono ?_
  rintro e w1 ⟨A1,k,c1,zs,rfl,hk,hU1,hT1,hv1,hb1⟩;have hkn:n=k:=by rw[aJ hU1 hT1,hv1];exact HN.out
  subst hkn;have hblk:=HK.out.below hb1 sm
  obtain⟨e0,e1⟩:=fm hblk;have HBB:=ac (HB.out.trans (hb1.mono sm))
  have HU1:=ac hU1;clear hU1;have HV1:=ac hv1;clear hv1;clear hblk hb1 hT1
  go_wp2_with fail
  refine(yC A1 n c1 _ zs _ hn HU1.out).mono ?_;rintro e w' ⟨rfl,rfl⟩;rw[HV1.out,HV.out];have hw:IntKind.i64.wrap (v:Int)=v:=DK om om;have hl:(v:Int)<9223372036854775808:=om
  have hn3:¬(2:Int)<n:=om
  have hn4:decide ((2:Int)<n)=false:=by simpa using hn3
  clear hn hn3;have Hz1:=ac hz1;clear hz1;have Hz2:=ac hz2;clear hz2;go_wp2;go_ret2;exact⟨rfl,HBB.out⟩
 .have hv:(sg true (aZ xs))=-(aZ xs:Int):=by simp[sg]
  rw[hv]at hz1 hz2 ⊢;clear hv;generalize hvv:aZ xs=v at hz1 hz2 ⊢;have HV:=ac hvv;clear hvv
  go_enter func72,ntmps72
  go_wp2_with fail
  refine(gI A n c B xs _ hnc om (by simp;omega) HU.out).mono ?_
  rintro e w1 ⟨A1,k,c1,zs,rfl,hk,hU1,hT1,hv1,hb1⟩;have hkn:n=k:=by rw[aJ hU1 hT1,hv1];exact HN.out
  subst hkn;have hblk:=HK.out.below hb1 sm
  obtain⟨e0,e1⟩:=fm hblk;have HBB:=ac (HB.out.trans (hb1.mono sm))
  have HU1:=ac hU1;clear hU1;have HV1:=ac hv1;clear hv1;clear hblk hb1 hT1
  go_wp2_with fail
  refine(yC A1 n c1 _ zs _ hn HU1.out).mono ?_;rintro e w' ⟨rfl,rfl⟩;rw[HV1.out,HV.out];have hw:IntKind.i64.wrap (IntKind.u64.wrap (-(v:Int)))=-(v:Int):=by rw[cf,me];omega
  have hl:(v:Int)<=9223372036854775808:=om
  have Hz1:=ac hz1;clear hz1;have Hz2:=ac hz2;clear hz2;go_wp2;go_ret2;exact⟨rfl,HBB.out⟩

structure Dbl(xs zs:List Nat)(b0 k car:Nat):Prop where
 len:zs.length=k
 lim:nh zs
 eq:aZ zs+car*4294967296^k=2*aZ (xs.take k)+b0
 car:car<=1
def SH{y:Nat}(a:c<=1):2*y ||| c=2*y+c:=by
 have h:=kC (i:=1) (b:=c) om y;rw[tu]at h;rw[aA 2 y,<-Uy 2,<-h]
def G4(a:c<=1):bits .or .u32 ((x:Int)*2%4294967296) (c:Int)=((2*x%4294967296+c:Nat):Int):=by
 have h:=U9 (2*(x%2147483648)) c om om;rw[SH a]at h;have e:((x:Int)*2%4294967296)=((2*(x%2147483648):Nat):Int):=om
 rw[e];have b:2*x%4294967296=2*(x%2147483648):=om
 rw[b,<-h]
def Dbl.step{b0 k car:Nat}(h:Dbl xs zs b0 k car)(a:xs.getD k 0=x)(c:x<4294967296):Dbl xs (zs++[2*x%4294967296+car]) b0 (k+1) (x/2147483648):=by
 have d:=h.car;refine⟨by simp[h.len],h.lim.snoc om,?_,om⟩
 rw[iy,h.len,jg,a,cb];have e:=h.eq;have b:2*x%4294967296+4294967296*(x/2147483648)=2*x:=om
 generalize 2*x%4294967296=u at *;generalize x/2147483648=v at *;generalize (4294967296:Nat)^k=p at *;have f:p*(u+4294967296*v)=p*(2*x):=by rw[b]
 grind
def Ap(A:Option Addr)(n c L b0:Nat)(xs:List Nat)(w:World)(hn:n<=2147483648)(hL:L<=w.heap.size)(hx:cG w L A n xs)(hb0:b0<=1) :
  Calls ah 237 #[.slice A n c,.int .u32 b0] w (zq9 w (2*aZ xs+b0) (n+1)):=by
 have HX:=ac hx;clear hx
 go_enter func237,ntmps237
 go_wp2
 go_loopw [1,5,10] (fun cv ov iv wr=>∃(k car:Nat) (zs:List Nat),k<=n/\iv=.int .i64 k/\cv=.int .u32 car/\car<=1/\Hid (AU w wr ov zs)/\Hid (Dbl xs zs b0 k car)) (fun _ _ iv _=>n-(intOf iv).toNat)
 case atStart=>exact⟨0,b0,[],om,rfl,rfl,om,ac (AU.start w),ac ⟨rfl,by simp[nh],by simp[aZ],om⟩⟩
 case round =>
  obtain⟨k,car,zs,hk,rfl,rfl,hcar,HO,HS⟩:=hrel;have hzl:=HS.out.len;have hk0:(0:Int)<=k:=om
  by_cases hkn:k<n
  .obtain⟨ad,x,rfl,hab,hxx,hx4,h1⟩:=(HX.out.below HO.out.2 hL).at_ (k:=k) hkn;have HXX:=ac hxx;clear hxx;have hkn':(k:Int)<n:=om
   have HPI:Hid (bits .or .u32 ((x:Int)*2%4294967296) (car:Int)=((2*x%4294967296+car:Nat):Int)):=ac (G4 hcar)
   go_wp2_with (at_builtin;rw[HPI.out];refine ia rfl _ _ rfl w _ _ zs rfl HO.out (2*x%4294967296+car) _ rfl om ?_)
   intro v' w1 hO;have HO1:=ac hO;clear hO;go_wp2
   go_roundw
   case rel=>exact⟨k+1,x/2147483648,_,om,by go_num,by go_num,om,HO1,ac (HS.out.step HXX.out hx4)⟩
   case measure=>simp[intOf];omega
  .have hkn':¬(k:Int)<n:=om
   go_wp2_with (at_builtin;refine ia rfl _ _ rfl w _ _ zs rfl HO.out car _ rfl om ?_)
   intro v' w1 hO;obtain⟨A',c',rfl⟩:=hO.slice;obtain⟨hU,hc⟩:=cG.ofOwn hO.1 (HS.out.lim.snoc om);have HU:=ac hU;have HB:=ac hO.2;have hv:aZ (zs++[car])=2*aZ xs+b0:=by
    have h5:=HS.out.eq;rw[bR (l:=xs) (by rw[HX.out.1];omega)]at h5
    rw[iy,HS.out.len,<-h5,aA]
   have HV:=ac hv;clear hU hO hv;go_wp2;go_ret;exact⟨_,_,_,_,rfl,hc,by simp[hzl];omega,HU.out,HV.out,HB.out⟩

def FK(h:nh l)(j:Nat)(a:j<l.length):l.getD j 0=aZ l/4294967296^j%4294967296:=by
 have b:=vG l j a;have c:aZ (l.take j)<4294967296^j:=by
  have d:=jr (h.take j)
  rwa [gS,ir om]at d
 have e:=h.getD j;rw[b,UB _ _ (iK om),eO c,aD,Om,dX e]
def QC(a s:Nat)(d:s<32):a%4294967296/2^s%2=a/2^s%2:=by
 have h:=Nat.testBit_mod_two_pow a 32 s;simp only[Nat.testBit_eq_decide_div_mod_eq,d,decide_true,Bool.true_and]at h;have e:(2:Nat)^32=4294967296:=by decide
 rw[e]at h;have b:=L9 (a%4294967296/2^s);have c:=L9 (a/2^s);rcases b with b|b<;>rcases c with c|c<;>simp[b,c]at h ⊢
def J3(h:nh l)(i:Nat)(a:i<32*l.length):l.getD (i/32) 0/2^(i%32)%2=aZ l/2^i%2:=by
 rw[FK h (i/32) om,QC _ _ om,R8,zQ,<-fJ];congr 3;omega
structure ve(V D Q R i:Nat):Prop where
 eq:V/2^i=Q*D+R
 lt:R<D
def ve.dig(h:ve V D Q R (i+1)):V/2^i=2*(Q*D)+(2*R+V/2^i%2):=by
 have a:=h.eq;rw[cb,<-R8]at a;omega
def ve.more(h:ve V D Q R (i+1))(a:D<=2*R+V/2^i%2):ve V D (2*Q+1) (2*R+V/2^i%2-D) i:=by
 have b:=h.dig;have c:=h.lt;refine⟨?_,om⟩
 have d:(2*Q+1)*D=2*(Q*D)+D:=by grind
 omega
def ve.less(h:ve V D Q R (i+1))(a:2*R+V/2^i%2<D):ve V D (2*Q) (2*R+V/2^i%2) i:=by
 have b:=h.dig;refine⟨?_,a⟩;have c:(2*Q)*D=2*(Q*D):=by grind
 omega
def ve.done(h:ve V D Q R 0):Q=V/D/\R=V%D:=by
 have a:=h.eq;have b:=h.lt;simp only[Nat.pow_zero,Nat.div_one]at a;rw[a];refine⟨?_,?_⟩
 .rw[kF,Nat.add_mul_div_right _ _ om,eO b,aD]
 .rw[kF,Nat.add_mul_mod_self_right,dX b]
def SG{a s:Nat}(h:2^(s+1)∣a):a ||| 2^s=a+2^s:=by
 obtain⟨c,rfl⟩:=h;have d:=kC (i:=s+1) (b:=2^s) (jO om om) c;rw[tu,aA c]at d;exact d.symm
def Jq(f:nh ps){Q i:Nat}(q:i<32*ps.length)(g:aZ ps=Q*2^(i+1)) :
  ps.getD (i/32) 0 ||| 2^(i%32)=ps.getD (i/32) 0+2^(i%32)/\ps.getD (i/32) 0+2^(i%32)<4294967296/\aZ (ps.set (i/32) (ps.getD (i/32) 0+2^(i%32)))=(2*Q+1)*2^i:=by
 have k:=FK f (i/32) om;have l:i+1=32*(i/32)+(i%32+1):=om
 have m:aZ ps/4294967296^(i/32)=Q*2^(i%32+1):=by
  rw[g,zQ]
  conv=>lhs;rw[l,fJ,<-bC,aA Q,bC]
  rw[Nat.mul_div_cancel_left _ (iK om)]
 have h:2^(i%32+1)∣4294967296:=⟨2^(31-i%32),by rw[<-fJ,(om:i%32+1+(31-i%32)=32)]⟩
 have j:2^(i%32+1)∣ps.getD (i/32) 0:=by
  rw[k,m];exact(Nat.dvd_mod_iff h).2 (Nat.dvd_mul_left _ _)
 have a:=f.getD (i/32);refine⟨SG j,?_,?_⟩
 .obtain⟨c,n⟩:=j;obtain⟨d,o⟩:=h;rw[n]at a ⊢;rw[o]at a ⊢;have b:c<d:=Nat.lt_of_mul_lt_mul_left a;have e:2^(i%32+1)*(c+1)<=2^(i%32+1)*d:=aM _ b;have p:0<2^(i%32):=iK om;have r:2^(i%32+1)=2*2^(i%32):=by rw[cb];omega
  rw[cg,r9]at e;omega
 .have b:=C7 ps (i/32) (ps.getD (i/32) 0+2^(i%32)) om;have e:2^(i%32)*4294967296^(i/32)=2^i:=by
   rw[zQ,<-fJ];congr 1;omega
  rw[dM,e,g,cb]at b;have p:(2*Q+1)*2^i=Q*(2^i*2)+2^i:=by grind
  omega

def Q6(w:World)(v:Nat)(e:Ending)(w':World):Prop :=
 ∃(A:Option Addr) (n c:Nat) (zs:List Nat),e=.returned (.slice A n c)/\n<=c/\cG w' w'.heap.size A n zs/\oW zs/\aZ zs=v/\Below w.heap.size w w'/\∀ad,A=some ad->w.heap.size<=ad.block
def JE{e:TypeId}{m:Nat}{cs:List Value}(h:w'.ownsRow B e size (.slice A m c) m cs):∀ad,A=some ad->B<=ad.block:=by
 intro ad b;subst b;rcases h.2 with⟨a,_⟩|⟨g,cap,cur,d,a,_⟩
 .cases a
 .cases d;exact a
def zu(A:Option Addr)(n c B:Nat)(xs:List Nat)(w:World)(hn:n<=c)(hm:n<=2147483648)(hB:B<=w.heap.size)(h:cG w B A n xs) :
  Calls ah 71 #[.slice A n c] w (Q6 w (aZ xs)):=by
 have HH:=ac h;clear h
 go_enter func71,ntmps71
 go_wp2
 go_loop [3] (fun s=>∃k:Nat,k<=n/\s=.int .i64 k/\Hid (∀j,k<=j->xs.getD j 0=0)) (fun s=>(intOf s).toNat)
 case atStart=>exact⟨n,ae _,rfl,ac (fun j hj=>by simp[cT,cH (show xs.length<=j by rw[HH.out.1];exact hj)])⟩
 case round =>
  obtain⟨k,hk,rfl,hz⟩:=hrel;by_cases h0:k=0
  .subst h0
   go_wp2_with (at_builtin;refine jF _ rfl _ _ 48 rfl 136 Tryz.t136 (.int .u32 0) 1 4 fV Ig GR Hh Iy rfl om rfl A 0 c [] rfl rfl (fun h=>absurd h om) sm sm sm ?_)
   intro A' c' w1 hown hgrow;have HN:=ac (JE hown);obtain⟨hU,hc⟩:=cG.ofOwn (xs:=[]) hown (by simp[nh])
   have HU:=ac hU;have HB:=ac (ko hgrow (B:=w.heap.size) (ae _) (by intro g h;cases h))
   have HV:=ac (nB 0 xs hz.out);clear hU hown hgrow hz;go_wp2;go_ret;exact⟨_,_,_,_,rfl,hc,HU.out,zY,by rw[HV.out];rfl,HB.out,HN.out⟩
  .obtain⟨m,rfl⟩:∃m,k=m+1:=⟨k-1,om⟩
   obtain⟨ad,x,rfl,_,hx',_,hx⟩:=HH.out.at_ (k:=m) om;have HX:=ac hx';clear hx';by_cases hx0:x=0
   .subst hx0;go_wp2;refine⟨⟨m,om,by go_num,ac fun j hj=>?_⟩,by simp[intOf]⟩
    rcases aC m j with h|h
    .exact hz.out j h
    .obtain rfl:j=m:=om
     exact HX.out
   .have hb1:((x:Int)==0)=false:=by simp;omega
    have HT:=HH.out.take hk;have HTT:=ac HT;clear HT
    go_wp2_with (at_builtin;refine jF _ rfl _ _ 48 rfl 136 Tryz.t136 (.int .u32 0) 1 4 fV Ig GR Hh Iy rfl om rfl (some ad) (m+1) c (jU (xs.take (m+1))) rfl (by simp[jU];rw[HH.out.1];omega) (HTT.out.src) (tX _) (by simp[maxLen];omega) om ?_)
    intro A' c' w1 hown hgrow;have HN:=ac (JE hown);obtain⟨hU,hc⟩:=cG.ofOwn hown (HH.out.2.1.take _);have HU:=ac hU;have HB:=ac (ko hgrow (B:=w.heap.size) (ae _) (by intro g h;cases h))
    have HV:=ac (nB (m+1) xs hz.out);have HTP:Hid (oW (xs.take (m+1))):=ac (tG (fun _=>by rw[fK,HX.out];exact hx0) (by rw[HH.out.1];exact hk))
    clear hU hown hgrow hz;go_wp2;go_ret;exact⟨_,_,_,_,rfl,hc,HU.out,HTP.out,HV.out.symm,HB.out,HN.out⟩

def yF(b:-9223372036854775808<=a)(c:a<=9223372036854775807):IntKind.i64.wrap a=a:=IntWalk.i64_in a ⟨b,c⟩
theorem zk:∀n,aZ (bU n 0)=0
 | 0=>rfl
 | n+1=>by simp[kb,aZ,zk n]
def zq{n g:Nat}(h:cG w w.heap.size A n xs)(a:∀ad,A=some ad->ad.block≠g):cG (w.setCell ⟨g,i,none⟩ u) (w.setCell ⟨g,i,none⟩ u).heap.size A n xs:=by
 refine⟨h.1,h.2.1,fun b=>?_⟩;obtain⟨ad,e,c,d⟩:=h.2.2 b;refine⟨ad,e,by simpa using c,fun j f=>?_⟩
 rw[<-d j f];exact BE (w:=w) (by rw[nH];exact OR w ⟨g,i,none⟩ u ad.block (a ad e))
def zi(h:z<4294967296):(z:Int)%4294967296=(z:Int):=dZ om om
def Ql(s:Bool)(A:Option Addr)(k c:Nat)(w:World):Sem.run ah (Instr.field 50 (.agg #[.bool s,.slice A k c]) 1) w=.ok (.slice A k c) w:=by
 kernel_rfl
def DS(A B:Option Addr)(n m c d L:Nat)(xs ys:List Nat)(w:World)(hn:n<=2)(hm:m<=2)(hx:cG w L A n xs)(hy:cG w L B m ys)
  (h0:0<aZ ys):Calls ah 189 #[.slice A n c,.slice B m d] w (ns w (aZ xs/aZ ys) (aZ xs%aZ ys)):=by
 have hx4:aZ xs<18446744073709551616:=by
  have h:=jr hx.2.1;rw[hx.1]at h;have h2:(4294967296:Nat)^n<=4294967296^2:=cp om hn;omega
 have hy4:aZ ys<18446744073709551616:=by
  have h:=jr hy.2.1;rw[hy.1]at h;have h2:(4294967296:Nat)^m<=4294967296^2:=cp om hm;omega
 have HX:=ac hx;clear hx;have HY:=ac hy;clear hy;generalize hvx:aZ xs=x at hx4 h0 ⊢;generalize hvy:aZ ys=y at hy4 h0 ⊢;have HVX:=ac hvx;clear hvx;have HVY:=ac hvy;clear hvy;have hn2i:(n:Int)<=2:=om
 have hm2i:(m:Int)<=2:=om
 have hy0:(y:Int)≠0:=om
 have hyn:y≠0:=om
 have hqle:x/y<=x:=gK x y;have hrlt:x%y<y:=dj x h0;have Hq:Hid (IntKind.u64.wrap ((x:Int)/(y:Int))=((x/y:Nat):Int)):=ac (by rw[cf,<-lQ];exact dZ (cA _) om)
 have Hr:Hid ((x:Int)%(y:Int)=((x%y:Nat):Int)):=ac sm
 have Hr2:Hid ((x:Int).tmod (y:Int)=((x%y:Nat):Int)):=ac (by rw[aL (cA _)];simp)
 generalize x/y=q at hqle Hq ⊢;generalize x%y=r at hrlt Hr Hr2 ⊢;have hfld:=Ql
 go_enter func189,Vj
 go_wp2_with fail
 refine(yC A n c L xs _ om HX.out).mono ?_;rintro e w' ⟨rfl,rfl⟩;rw[HVX.out]
 go_wp2_with fail
 refine(yC B m d L ys _ om HY.out).mono ?_;rintro e w' ⟨rfl,rfl⟩;rw[HVY.out];go_wp2;have HQ:=ac (aX w.heap.size w).drew
 go_region_held3 (fun w'=>Below w.heap.size w w')
  (first|assumption|exact HQ.out)
  (first
   | (go_at_call 69;rw[Hq.out];refine(pO false q w.drew om).mono ?_;rintro e w2 ⟨v,rfl,hI,hb1⟩;obtain⟨s1,A1,k1,c1,qs,rfl,hk1,hU1,hT1,hv1⟩:=hI;have HU1:=ac hU1;clear hU1;have HT1:=ac hT1;clear hT1;have HV1:=ac hv1;clear hv1;have hB2:Below w.heap.size w w2:=HQ.out.trans (hb1.mono HQ.out.size);clear hb1)
   | (go_at_call 69;(first|rw[Hr.out]|rw[Hr2.out]);refine(pO false r w2 om).mono ?_;rintro e w3 ⟨v,rfl,hI,hb2⟩;obtain⟨s2,A2,k2,c2,rs,rfl,hk2,hU2,hT2,hv2⟩:=hI;have HU2:=ac hU2;clear hU2;have HT2:=ac hT2;clear hT2;have HV2:=ac hv2;clear hv2;have hB3:Below w.heap.size w w3:=hB2.trans (hb2.mono hB2.size);have HB3:=ac hb2;clear hb2))
 all_goals (try go_wp2)
 all_goals go_ret2
 all_goals exact⟨A1,k1,c1,qs,A2,k2,c2,rs,rfl,hk1,hk2,(HU1.out.below HB3.out (ae _)).more HB3.out.size,HU2.out,HT1.out,HT2.out,by have:=jL Int.natAbs HV1.out;rw[fP,fP]at this;omega,by have:=jL Int.natAbs HV2.out;rw[fP,fP]at this;omega,hB3⟩
def Iq(A B:Option Addr)(n m c d L:Nat)(xs ys:List Nat)(w:World)(hn:n<=16777216)(hm:m<=16777216)(hL:L<=w.heap.size)(hx:cG w L A n xs)(hy:cG w L B m ys)(ty:oW ys)
  (h0:0<aZ ys) (hbig:2<n):Calls ah 189 #[.slice A n c,.slice B m d] w (ns w (aZ xs/aZ ys) (aZ xs%aZ ys)):=by
 have HX:=ac hx;clear hx;have HY:=ac hy;clear hy;have HTY:=ac ty;clear ty;have H0:=ac h0;clear h0;have hmk:=DD n om;have hbi:¬(n:Int)<=2:=om
 have hwr:IntKind.i64.wrap (32*(n:Int))=32*(n:Int):=yF om om
 go_enter func189,Vj
 go_wp2
 go_loopw [5,8] (fun rv iv wr=>∃(i Q R:Nat) (ps rs:List Nat) (A2:Option Addr) (k2 c2:Nat),i<=32*n/\iv=.int .i64 ((i:Int)-1)/\rv=.slice A2 k2 c2/\k2<=c2/\k2<=m/\Hid (iA w wr ps)/\Hid (nh ps/\ps.length=n/\aZ ps=Q*2^i)/\Hid (cG wr wr.heap.size A2 k2 rs/\oW rs/\aZ rs=R)/\Hid (ve (aZ xs) (aZ ys) Q R i)) (fun _ iv _=>(intOf iv+1).toNat)
 case atStart =>
  refine⟨32*n,0,0,bU n 0,[],none,0,0,om,?_,rfl,om,om,ac (iA.start w n),ac ⟨?_,sm,?_⟩,ac ⟨SJ _ _ _,zY,rfl⟩,ac ⟨?_,H0.out⟩⟩
  .go_num
  .intro x hx;rw[gH hx];omega
  .rw[zk];omega
  .rw[eO]
   .omega
   .have h:=jr HX.out.2.1;rw[HX.out.1,zQ]at h;exact h
 case round =>
  obtain⟨i,Q,R,ps,rs,A2,k2,c2,hi,rfl,rfl,hk2,hkm,HF,HP,HR,HD⟩:=hrel
  cases i with
  | zero =>
   have e0:((0:Nat):Int)-1=-1:=om
   rw[e0]
   go_wp2_with fail
   have hU:=cG.ofBlk HF.out.2 HP.out.1 HF.out.2.lt rfl;rw[HP.out.2.1]at hU;refine(gI _ _ _ _ _ _ (ae _) om (ae _) hU).mono ?_;rintro e w2 ⟨A3,k3,c3,zs,rfl,hk3,hU3,hT3,hv3,hb3⟩;have HU3:=ac hU3;clear hU3;have HT3:=ac hT3;clear hT3;have HV3:=ac hv3;clear hv3;have HB3:=ac hb3;clear hb3;clear hU;go_wp2;go_ret2;obtain⟨r1,r2,r3⟩:=HR.out;obtain⟨d1,d2⟩:=HD.out.done;exact⟨A3,k3,c3,zs,A2,k2,c2,rs,rfl,hk3,hk2,HU3.out,(r1.below HB3.out (ae _)).more HB3.out.size,HT3.out,r2,by rw[HV3.out,HP.out.2.2,d1];simp,by rw[r3,d2],HF.out.1.trans (HB3.out.mono HF.out.1.size)⟩
  | succ i =>
   have e0:((i+1:Nat):Int)-1=(i:Int):=om
   rw[e0];obtain⟨ad,x,rfl,hab,hxx,hx4,hcx⟩:=(HX.out.below HF.out.1 hL).at_ (k:=i/32) om;have HXX:=ac hxx;clear hxx;have hi0:(0:Int)<=i:=om
   have hi32:(i:Int)/32<n:=om
   have hi33:(0:Int)<=(i:Int)/32:=om
   have hi34:((i:Int)/32).toNat=i/32:=om
   have hbit:bits .and .u32 ((x:Int)/2^(i%32)) 1=((aZ xs/2^i%2:Nat):Int):=by
    have h:=u32_and_nat (x/2^(i%32)) 1 (ee (gK _ _) hx4) om;rw[UL,<-HXX.out,J3 HX.out.2.1 i (by rw[HX.out.1];omega)]at h
    rw[<-h,<-HXX.out];simp
   have hb1:aZ xs/2^i%2<=1:=om
   generalize hbb:aZ xs/2^i%2=b at hbit hb1;have HBB:=ac hbb;clear hbb;have HBIT:=ac hbit;clear hbit
   go_wp2_with fail
   rw[HBIT.out];refine(Ap A2 k2 c2 wr.heap.size b rs wr om (ae _) HR.out.1 hb1).mono ?_;rintro e w1 ⟨A3,k3,c3,zs3,rfl,hc3,hk3,hU3,hv3,hb3⟩;have HU3:=ac hU3;clear hU3;have HV3:=ac hv3;clear hv3;have HB3:=ac (HF.out.1.trans (hb3.mono HF.out.1.size));have HF3:Hid (iA w w1 ps):=ac ⟨HB3.out,HF.out.2.below hb3 HF.out.2.lt⟩;clear hb3
   go_wp2_with fail
   refine(gI A3 k3 c3 _ zs3 w1 hc3 om (ae _) HU3.out).mono ?_;rintro e w2 ⟨A4,k4,c4,zs4,rfl,hc4,hU4,hT4,hv4,hb4⟩;have HF4:Hid (iA w w2 ps):=ac ⟨HB3.out.trans (hb4.mono HB3.out.size),HF3.out.2.below hb4 HF3.out.2.lt⟩;have hk4:k4<=k2+1:=by
    rw[aJ hU4 hT4,hv4];exact bQ (jS.2 (by have:=jr HU3.out.2.1;rw[HU3.out.1]at this;exact this)) hk3
   have HU4:=ac hU4;clear hU4;have HT4:=ac hT4;clear hT4;have HV4:Hid (aZ zs4=2*R+b):=ac (by rw[hv4,HV3.out,HR.out.2.2]);clear hv4 hb4 HU3 HV3 HB3 HF3 HBIT
   have hY2:cG w2 w2.heap.size B m ys:=(HY.out.below HF4.out.1 hL).more (by have:=HF4.out.1.size;omega)
   have HY2:=ac hY2;clear hY2;rcases aC (2*R+b) (aZ ys)with hlt|hge
   .have hcm:li (aZ zs4) (aZ ys)=-1:=by rw[HV4.out];exact lH hlt
    have HCM:=ac hcm;clear hcm;have HD2:=ac (HD.out.less (by rw[HBB.out];exact hlt))
    have hk5:k4<=m:=by
     rw[aJ HU4.out HT4.out,aJ HY.out HTY.out,HV4.out];exact fT (dB hlt)
    clear hlt
    go_wp2_with fail
    refine(ma A4 B k4 m c4 d w2.heap.size zs4 ys w2 om om HU4.out HY2.out HT4.out HTY.out).mono ?_;rintro e w5 ⟨rfl,hst⟩;rw[HCM.out];obtain⟨q,rfl⟩:=hst;go_wp2
    go_roundw
    case rel=>exact⟨i,2*Q,2*R+b,ps,zs4,A4,k4,c4,om,by go_num,rfl,hc4,hk5,ac ⟨HF4.out.1.trans ((d9.refl w2).more q |>.below _),HF4.out.2⟩,ac ⟨HP.out.1,HP.out.2.1,by rw[HP.out.2.2,cb];grind⟩,ac ⟨HU4.out,HT4.out,HV4.out⟩,ac (by have:=HD2.out;rw[HBB.out]at this;exact this)⟩
    case measure=>simp[intOf]
   .have hcm:0<=li (aZ zs4) (aZ ys):=by
     rw[HV4.out];rcases aC (aZ ys) (2*R+b)with h|h
     .rw[kA h];omega
     .rw[lI om];omega
    have hmk4:m<=k4:=by
     rw[aJ HU4.out HT4.out,aJ HY.out HTY.out,HV4.out];exact fT hge
    have HD2:Hid (ve (aZ xs) (aZ ys) (2*Q+1) (2*R+b-aZ ys) i):=ac (by have:=HD.out.more (by rw[HBB.out];exact hge);rw[HBB.out]at this;exact this)
    have HGE:=ac hge;clear hge;generalize hcg:li (aZ zs4) (aZ ys)=cm at hcm;have HCM:=ac hcg;clear hcg
    go_wp2_with fail
    refine(ma A4 B k4 m c4 d w2.heap.size zs4 ys w2 om om HU4.out HY2.out HT4.out HTY.out).mono ?_;rintro e w5 ⟨rfl,hst⟩;rw[HCM.out];obtain⟨q,rfl⟩:=hst;have HUq:Hid (cG (w2.drewN q) (w2.drewN q).heap.size A4 k4 zs4):=ac HU4.out;have HYq:Hid (cG (w2.drewN q) (w2.drewN q).heap.size B m ys):=ac HY2.out;have HFq:Hid (iA w (w2.drewN q) ps):=ac ⟨HF4.out.1.trans ((d9.refl w2).more q |>.below _),HF4.out.2⟩
    clear HF4 HY2 HF HR;generalize w2.drewN q=wq at HUq HYq HFq ⊢
    go_wp2_with fail
    refine(lF A4 B k4 m c4 d wq.heap.size zs4 ys wq hmk4 om (ae _) HUq.out HYq.out (by rw[HV4.out];exact HGE.out)).mono ?_
    rintro e w6 ⟨A6,k6,c6,zs6,rfl,hc6,hk6,hU6,hv6,hb6⟩;have HF6:Hid (iA w w6 ps):=ac ⟨HFq.out.1.trans (hb6.mono HFq.out.1.size),HFq.out.2.below hb6 HFq.out.2.lt⟩;have HU6:=ac hU6;clear hU6;have HV6:=ac hv6;clear hv6 hb6 HFq HYq HUq
    go_wp2_with fail
    refine(zu A6 k6 c6 _ zs6 w6 hc6 om (ae _) HU6.out).mono ?_;rintro e w7 ⟨A7,k7,c7,zs7,rfl,hc7,hU7,hT7,hv7,hb7,hN7⟩;have HN7:Hid (∀ad,A7=some ad->ad.block≠w.heap.size):=ac (fun ad h=>by have h1:=hN7 ad h;have h2:=HF6.out.2.lt;omega)
    clear hN7;have HF7:Hid (iA w w7 ps):=ac ⟨HF6.out.1.trans (hb7.mono HF6.out.1.size),HF6.out.2.below hb7 HF6.out.2.lt⟩;have HV7:Hid (aZ zs7=2*R+b-aZ ys):=ac (by rw[hv7,HV6.out,HV4.out])
    have hk7:k7<=m:=by
     rw[aJ hU7 hT7,aJ HY.out HTY.out,HV7.out];exact fT (dB HD2.out.lt)
    have HU7:=ac hU7;clear hU7;have HT7:=ac hT7;clear hT7 hv7 hb7 HF6 HU6 HV6;obtain⟨s1,s2,s3⟩:=Jq HP.out.1 (Q:=Q) (i:=i) (by rw[HP.out.2.1];omega) HP.out.2.2
    obtain⟨hcp,hfp⟩:=HF7.out.at_ (i/32) (by rw[HP.out.2.1];omega)
    have hp4:=HP.out.1.getD (i/32);generalize hpp:ps.getD (i/32) 0=p at hcp s1 s2 s3 hp4;clear hpp;have hor:bits .or .u32 (p:Int) (IntKind.u32.wrap (2^((i:Int)%32).toNat))=((p+2^(i%32):Nat):Int):=by
     have h1:((i:Int)%32).toNat=i%32:=om
     have h2:2^(i%32)<4294967296:=by
      have:2^(i%32)<2^32:=jO om om;simpa using this
     have h3:((2:Int)^(i%32))=((2^(i%32):Nat):Int):=by simp
     have h4:IntKind.u32.wrap ((2^(i%32):Nat):Int)=((2^(i%32):Nat):Int):=by rw[LV];exact zi h2
     rw[h1,h3,h4,U9 _ _ hp4 h2,s1]
    have HOR:=ac hor;clear hor;have HS3:=ac s3;clear s3 s1;have HS2:=ac s2;clear s2;have hU7d:cG w7.drew w7.drew.heap.size A7 k7 zs7:=HU7.out;have HU7d:=ac hU7d;clear hU7d;have HF7d:Hid (iA w w7.drew ps):=ac ⟨HF7.out.1.drew,HF7.out.2⟩;go_wp2;have ht1:(i:Int).tdiv 32=(i:Int)/32:=fM hi0;have ht2:(i:Int).tmod 32=(i:Int)%32:=aL hi0;have ht3:IntKind.i64.wrap ((i:Int)/32)=(i:Int)/32:=yF om om;have ht4:(0:Int)<=(i:Int)%32:=om
    go_still_tail 9,kr
    rw[HOR.out];change wpList _ _ _ _ _ w7.drew;clear ht1 ht2 ht3 ht4 HOR HU7 HF7;have hcp':w7.drew.cell? ⟨w.heap.size,i/32,none⟩=some (.int .u32 p):=hcp;have hfp':w7.drew.frozen? ⟨w.heap.size,i/32,none⟩=false:=hfp;clear hcp hfp;generalize w7.drew=w8 at hcp' hfp' HU7d HF7d ⊢;go_wp2
    go_roundw
    case rel =>
     have hF:=HF7d.out.put (i/32) (p+2^(i%32));refine⟨i,2*Q+1,2*R+b-aZ ys,ps.set (i/32) (p+2^(i%32)),zs7,A7,k7,c7,om,by go_num,rfl,hc7,hk7,ac hF,ac ⟨HP.out.1.set _ HS2.out,by rw[Vc];exact HP.out.2.1,HS3.out⟩,ac ⟨?_,HT7.out,HV7.out⟩,HD2⟩
     exact zq HU7d.out HN7.out
    case measure=>simp[intOf]

def Ip(A B:Option Addr)(n m c d L:Nat)(xs ys:List Nat)(w:World)(hn:n<=16777216)(hm:m<=16777216)(hL:L<=w.heap.size)(hx:cG w L A n xs)(hy:cG w L B m ys)(ty:oW ys)
  (h0:0<aZ ys) (hb1:n<=2) (hb2:2<m):Calls ah 189 #[.slice A n c,.slice B m d] w (ns w (aZ xs/aZ ys) (aZ xs%aZ ys)):=by
 have HX:=ac hx;clear hx;have HY:=ac hy;clear hy;have HTY:=ac ty;clear ty;have H0:=ac h0;clear h0;have hmk:=DD n om;have hbi:(n:Int)<=2:=om
 have hbj:¬(m:Int)<=2:=om
 have hwr:IntKind.i64.wrap (32*(n:Int))=32*(n:Int):=yF om om
 go_enter func189,Vj
 go_wp2
 go_loopw [5,8] (fun rv iv wr=>∃(i Q R:Nat) (ps rs:List Nat) (A2:Option Addr) (k2 c2:Nat),i<=32*n/\iv=.int .i64 ((i:Int)-1)/\rv=.slice A2 k2 c2/\k2<=c2/\k2<=m/\Hid (iA w wr ps)/\Hid (nh ps/\ps.length=n/\aZ ps=Q*2^i)/\Hid (cG wr wr.heap.size A2 k2 rs/\oW rs/\aZ rs=R)/\Hid (ve (aZ xs) (aZ ys) Q R i)) (fun _ iv _=>(intOf iv+1).toNat)
 case atStart =>
  refine⟨32*n,0,0,bU n 0,[],none,0,0,om,?_,rfl,om,om,ac (iA.start w n),ac ⟨?_,sm,?_⟩,ac ⟨SJ _ _ _,zY,rfl⟩,ac ⟨?_,H0.out⟩⟩
  .go_num
  .intro x hx;rw[gH hx];omega
  .rw[zk];omega
  .rw[eO]
   .omega
   .have h:=jr HX.out.2.1;rw[HX.out.1,zQ]at h;exact h
 case round =>
  obtain⟨i,Q,R,ps,rs,A2,k2,c2,hi,rfl,rfl,hk2,hkm,HF,HP,HR,HD⟩:=hrel
  cases i with
  | zero =>
   have e0:((0:Nat):Int)-1=-1:=om
   rw[e0]
   go_wp2_with fail
   have hU:=cG.ofBlk HF.out.2 HP.out.1 HF.out.2.lt rfl;rw[HP.out.2.1]at hU;refine(gI _ _ _ _ _ _ (ae _) om (ae _) hU).mono ?_;rintro e w2 ⟨A3,k3,c3,zs,rfl,hk3,hU3,hT3,hv3,hb3⟩;have HU3:=ac hU3;clear hU3;have HT3:=ac hT3;clear hT3;have HV3:=ac hv3;clear hv3;have HB3:=ac hb3;clear hb3;clear hU;go_wp2;go_ret2;obtain⟨r1,r2,r3⟩:=HR.out;obtain⟨d1,d2⟩:=HD.out.done;exact⟨A3,k3,c3,zs,A2,k2,c2,rs,rfl,hk3,hk2,HU3.out,(r1.below HB3.out (ae _)).more HB3.out.size,HT3.out,r2,by rw[HV3.out,HP.out.2.2,d1];simp,by rw[r3,d2],HF.out.1.trans (HB3.out.mono HF.out.1.size)⟩
  | succ i =>
   have e0:((i+1:Nat):Int)-1=(i:Int):=om
   rw[e0];obtain⟨ad,x,rfl,hab,hxx,hx4,hcx⟩:=(HX.out.below HF.out.1 hL).at_ (k:=i/32) om;have HXX:=ac hxx;clear hxx;have hi0:(0:Int)<=i:=om
   have hi32:(i:Int)/32<n:=om
   have hi33:(0:Int)<=(i:Int)/32:=om
   have hi34:((i:Int)/32).toNat=i/32:=om
   have hbit:bits .and .u32 ((x:Int)/2^(i%32)) 1=((aZ xs/2^i%2:Nat):Int):=by
    have h:=u32_and_nat (x/2^(i%32)) 1 (ee (gK _ _) hx4) om;rw[UL,<-HXX.out,J3 HX.out.2.1 i (by rw[HX.out.1];omega)]at h
    rw[<-h,<-HXX.out];simp
   have hb1:aZ xs/2^i%2<=1:=om
   generalize hbb:aZ xs/2^i%2=b at hbit hb1;have HBB:=ac hbb;clear hbb;have HBIT:=ac hbit;clear hbit
   go_wp2_with fail
   rw[HBIT.out];refine(Ap A2 k2 c2 wr.heap.size b rs wr om (ae _) HR.out.1 hb1).mono ?_;rintro e w1 ⟨A3,k3,c3,zs3,rfl,hc3,hk3,hU3,hv3,hb3⟩;have HU3:=ac hU3;clear hU3;have HV3:=ac hv3;clear hv3;have HB3:=ac (HF.out.1.trans (hb3.mono HF.out.1.size));have HF3:Hid (iA w w1 ps):=ac ⟨HB3.out,HF.out.2.below hb3 HF.out.2.lt⟩;clear hb3
   go_wp2_with fail
   refine(gI A3 k3 c3 _ zs3 w1 hc3 om (ae _) HU3.out).mono ?_;rintro e w2 ⟨A4,k4,c4,zs4,rfl,hc4,hU4,hT4,hv4,hb4⟩;have HF4:Hid (iA w w2 ps):=ac ⟨HB3.out.trans (hb4.mono HB3.out.size),HF3.out.2.below hb4 HF3.out.2.lt⟩;have hk4:k4<=k2+1:=by
    rw[aJ hU4 hT4,hv4];exact bQ (jS.2 (by have:=jr HU3.out.2.1;rw[HU3.out.1]at this;exact this)) hk3
   have HU4:=ac hU4;clear hU4;have HT4:=ac hT4;clear hT4;have HV4:Hid (aZ zs4=2*R+b):=ac (by rw[hv4,HV3.out,HR.out.2.2]);clear hv4 hb4 HU3 HV3 HB3 HF3 HBIT
   have hY2:cG w2 w2.heap.size B m ys:=(HY.out.below HF4.out.1 hL).more (by have:=HF4.out.1.size;omega)
   have HY2:=ac hY2;clear hY2;rcases aC (2*R+b) (aZ ys)with hlt|hge
   .have hcm:li (aZ zs4) (aZ ys)=-1:=by rw[HV4.out];exact lH hlt
    have HCM:=ac hcm;clear hcm;have HD2:=ac (HD.out.less (by rw[HBB.out];exact hlt))
    have hk5:k4<=m:=by
     rw[aJ HU4.out HT4.out,aJ HY.out HTY.out,HV4.out];exact fT (dB hlt)
    clear hlt
    go_wp2_with fail
    refine(ma A4 B k4 m c4 d w2.heap.size zs4 ys w2 om om HU4.out HY2.out HT4.out HTY.out).mono ?_;rintro e w5 ⟨rfl,hst⟩;rw[HCM.out];obtain⟨q,rfl⟩:=hst;go_wp2
    go_roundw
    case rel=>exact⟨i,2*Q,2*R+b,ps,zs4,A4,k4,c4,om,by go_num,rfl,hc4,hk5,ac ⟨HF4.out.1.trans ((d9.refl w2).more q |>.below _),HF4.out.2⟩,ac ⟨HP.out.1,HP.out.2.1,by rw[HP.out.2.2,cb];grind⟩,ac ⟨HU4.out,HT4.out,HV4.out⟩,ac (by have:=HD2.out;rw[HBB.out]at this;exact this)⟩
    case measure=>simp[intOf]
   .have hcm:0<=li (aZ zs4) (aZ ys):=by
     rw[HV4.out];rcases aC (aZ ys) (2*R+b)with h|h
     .rw[kA h];omega
     .rw[lI om];omega
    have hmk4:m<=k4:=by
     rw[aJ HU4.out HT4.out,aJ HY.out HTY.out,HV4.out];exact fT hge
    have HD2:Hid (ve (aZ xs) (aZ ys) (2*Q+1) (2*R+b-aZ ys) i):=ac (by have:=HD.out.more (by rw[HBB.out];exact hge);rw[HBB.out]at this;exact this)
    have HGE:=ac hge;clear hge;generalize hcg:li (aZ zs4) (aZ ys)=cm at hcm;have HCM:=ac hcg;clear hcg
    go_wp2_with fail
    refine(ma A4 B k4 m c4 d w2.heap.size zs4 ys w2 om om HU4.out HY2.out HT4.out HTY.out).mono ?_;rintro e w5 ⟨rfl,hst⟩;rw[HCM.out];obtain⟨q,rfl⟩:=hst;have HUq:Hid (cG (w2.drewN q) (w2.drewN q).heap.size A4 k4 zs4):=ac HU4.out;have HYq:Hid (cG (w2.drewN q) (w2.drewN q).heap.size B m ys):=ac HY2.out;have HFq:Hid (iA w (w2.drewN q) ps):=ac ⟨HF4.out.1.trans ((d9.refl w2).more q |>.below _),HF4.out.2⟩
    clear HF4 HY2 HF HR;generalize w2.drewN q=wq at HUq HYq HFq ⊢
    go_wp2_with fail
    refine(lF A4 B k4 m c4 d wq.heap.size zs4 ys wq hmk4 om (ae _) HUq.out HYq.out (by rw[HV4.out];exact HGE.out)).mono ?_
    rintro e w6 ⟨A6,k6,c6,zs6,rfl,hc6,hk6,hU6,hv6,hb6⟩;have HF6:Hid (iA w w6 ps):=ac ⟨HFq.out.1.trans (hb6.mono HFq.out.1.size),HFq.out.2.below hb6 HFq.out.2.lt⟩;have HU6:=ac hU6;clear hU6;have HV6:=ac hv6;clear hv6 hb6 HFq HYq HUq
    go_wp2_with fail
    refine(zu A6 k6 c6 _ zs6 w6 hc6 om (ae _) HU6.out).mono ?_;rintro e w7 ⟨A7,k7,c7,zs7,rfl,hc7,hU7,hT7,hv7,hb7,hN7⟩;have HN7:Hid (∀ad,A7=some ad->ad.block≠w.heap.size):=ac (fun ad h=>by have h1:=hN7 ad h;have h2:=HF6.out.2.lt;omega)
    clear hN7;have HF7:Hid (iA w w7 ps):=ac ⟨HF6.out.1.trans (hb7.mono HF6.out.1.size),HF6.out.2.below hb7 HF6.out.2.lt⟩;have HV7:Hid (aZ zs7=2*R+b-aZ ys):=ac (by rw[hv7,HV6.out,HV4.out])
    have hk7:k7<=m:=by
     rw[aJ hU7 hT7,aJ HY.out HTY.out,HV7.out];exact fT (dB HD2.out.lt)
    have HU7:=ac hU7;clear hU7;have HT7:=ac hT7;clear hT7 hv7 hb7 HF6 HU6 HV6;obtain⟨s1,s2,s3⟩:=Jq HP.out.1 (Q:=Q) (i:=i) (by rw[HP.out.2.1];omega) HP.out.2.2
    obtain⟨hcp,hfp⟩:=HF7.out.at_ (i/32) (by rw[HP.out.2.1];omega)
    have hp4:=HP.out.1.getD (i/32);generalize hpp:ps.getD (i/32) 0=p at hcp s1 s2 s3 hp4;clear hpp;have hor:bits .or .u32 (p:Int) (IntKind.u32.wrap (2^((i:Int)%32).toNat))=((p+2^(i%32):Nat):Int):=by
     have h1:((i:Int)%32).toNat=i%32:=om
     have h2:2^(i%32)<4294967296:=by
      have:2^(i%32)<2^32:=jO om om;simpa using this
     have h3:((2:Int)^(i%32))=((2^(i%32):Nat):Int):=by simp
     have h4:IntKind.u32.wrap ((2^(i%32):Nat):Int)=((2^(i%32):Nat):Int):=by rw[LV];exact zi h2
     rw[h1,h3,h4,U9 _ _ hp4 h2,s1]
    have HOR:=ac hor;clear hor;have HS3:=ac s3;clear s3 s1;have HS2:=ac s2;clear s2;have hU7d:cG w7.drew w7.drew.heap.size A7 k7 zs7:=HU7.out;have HU7d:=ac hU7d;clear hU7d;have HF7d:Hid (iA w w7.drew ps):=ac ⟨HF7.out.1.drew,HF7.out.2⟩;go_wp2;have ht1:(i:Int).tdiv 32=(i:Int)/32:=fM hi0;have ht2:(i:Int).tmod 32=(i:Int)%32:=aL hi0;have ht3:IntKind.i64.wrap ((i:Int)/32)=(i:Int)/32:=yF om om;have ht4:(0:Int)<=(i:Int)%32:=om
    go_still_tail 9,kr
    rw[HOR.out];change wpList _ _ _ _ _ w7.drew;clear ht1 ht2 ht3 ht4 HOR HU7 HF7;have hcp':w7.drew.cell? ⟨w.heap.size,i/32,none⟩=some (.int .u32 p):=hcp;have hfp':w7.drew.frozen? ⟨w.heap.size,i/32,none⟩=false:=hfp;clear hcp hfp;generalize w7.drew=w8 at hcp' hfp' HU7d HF7d ⊢;go_wp2
    go_roundw
    case rel =>
     have hF:=HF7d.out.put (i/32) (p+2^(i%32));refine⟨i,2*Q+1,2*R+b-aZ ys,ps.set (i/32) (p+2^(i%32)),zs7,A7,k7,c7,om,by go_num,rfl,hc7,hk7,ac hF,ac ⟨HP.out.1.set _ HS2.out,by rw[Vc];exact HP.out.2.1,HS3.out⟩,ac ⟨?_,HT7.out,HV7.out⟩,HD2⟩
     exact zq HU7d.out HN7.out
    case measure=>simp[intOf]
def Ir(A B:Option Addr)(n m c d L:Nat)(xs ys:List Nat)(w:World)(f:n<=16777216)(g:m<=16777216)(h:L<=w.heap.size)(a:cG w L A n xs)(b:cG w L B m ys)(ty:oW ys)
  (e:0<aZ ys):Calls ah 189 #[.slice A n c,.slice B m d] w (ns w (aZ xs/aZ ys) (aZ xs%aZ ys)):=by
 by_cases i:n<=2
 .by_cases j:m<=2
  .exact DS A B n m c d L xs ys w i j a b e
  .exact Ip A B n m c d L xs ys w f g h a b ty e i om
 .exact Iq A B n m c d L xs ys w f g h a b ty e om

end Go.Proofs.YtdobfmlmenaajaaGreatDoor
