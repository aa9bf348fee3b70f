/-
  Lemmas for NeighbourForm.
-/
import Derived.Test.YtdobfmlmenaajaaGreatDoorK01
import Derived.Lib.AppendZerosOnto
namespace Go.Proofs.YtdobfmlmenaajaaGreatDoor
open Go.RowKit Tryz
open _root_.Classical renaming choose→fN
open _root_.List renaming replicate→cn,getD→dh
open _root_.Option renaming none→ae
open Tryz renaming prog→ak
open Value renaming slice→ao,bool→au,int→dv
set_option maxHeartbeats 6400000
set_option maxRecDepth 4096
set_option linter.all false
variable{a:Act}{ad:Addr}{cs':Array Value}{op:BinOp}{l xs zs:List Nat}{vs:List Value}{B D N Q R V b c es f j k len m n size:Nat}{M M' M'':Nat->Prop}{fr:Nat×Nat}{o:Obj}{A:Option Addr}{d:TypeDesc}{t t' ty:TypeId}{i:TypeInfo}{u v z:Value}{w w':World}
def CR(va vb:Value)(za zb:Int)(B:Nat)(w:World)(hB:B<=w.heap.size)(ha:ew w B va za)(hb:ew w B vb zb)(sa:nl za.natAbs<=1073741824)(sb:nl zb.natAbs<=1073741824) :
  Calls ak 87 #[va,vb] w (dI w (za+zb)):=by
 obtain⟨s1,A,n,c,xs,rfl,hnc,hx,tx,rfl⟩:=ha;obtain⟨s2,D,m,d,ys,rfl,hmd,hy,ty,rfl⟩:=hb;rw[fG,<-aD hx tx]at sa;rw[fG,<-aD hy ty]at sb;have HX:=ab hx;clear hx;have HY:=ab hy;clear hy;have HTX:=ab tx;clear tx;have HTY:=ab ty;clear ty;have HNX:=ab (aD HX.out HTX.out);have HNY:=ab (aD HY.out HTY.out)
 go_enter func87,ntmps87
 go_wp2;obtain⟨hb0,k1,k2,k3⟩:=Ay w #[au s1,ao A n c] #[au s2,ao D m d] #[au false,ao none 0 0];generalize (((w.alloc (Obj.cells #[au s1,ao A n c] 50)).alloc (Obj.cells #[au s2,ao D m d] 50)).alloc (Obj.cells #[au false,ao none 0 0] 50))=W at hb0 k1 k2 k3 ⊢;obtain⟨a0,a1⟩:=eS k1;obtain⟨b0,b1⟩:=eS k2;have HK3:=ab k3;clear k3 k1 k2;have HB0:=ab hb0;clear hb0;have hg2:w.heap.size+2<W.heap.size:=HK3.out.lt;have HS:=ab (show ∀w1,Below (w.heap.size+2) W w1->(w1.cell? ⟨w.heap.size,0,none⟩=some (.bool s1)/\w1.cell? ⟨w.heap.size,1,none⟩=some (.slice A n c)/\w1.cell? ⟨w.heap.size+1,0,none⟩=some (.bool s2)/\w1.cell? ⟨w.heap.size+1,1,none⟩=some (.slice D m d)/\Below (w.heap.size+2) W w1)from
  fun w1 h=>⟨(h.cell (by show w.heap.size<_;omega)).trans a0,(h.cell (by show w.heap.size<_;omega)).trans a1,(h.cell (by show w.heap.size+1<_;omega)).trans b0,(h.cell (by show w.heap.size+1<_;omega)).trans b1,h⟩)
 go_region_held3 (fun w'=>w'.cell? ⟨w.heap.size,0,none⟩=some (.bool s1)/\w'.cell? ⟨w.heap.size,1,none⟩=some (.slice A n c)/\w'.cell? ⟨w.heap.size+1,0,none⟩=some (.bool s2)/\w'.cell? ⟨w.heap.size+1,1,none⟩=some (.slice D m d)/\Below (w.heap.size+2) W w')
  (first|exact HS.out _ (bG _ _).drew|assumption|exact HS.out _ (by assumption))
  (first
   | (go_at_call_of 71 (ao A n c);refine(gn A n c B xs W.drew hnc om (by show B<=W.heap.size;omega) (HX.out.below HB0.out.drew hB)).mono ?_;rintro e w1 ⟨A1,j1,c1,z1,rfl,hj1,hU1,hT1,hv1,hbn⟩;obtain rfl:n=j1:=by { rw[aD hU1 hT1,hv1];exact HNX.out };have hB1:Below (w.heap.size+2) W w1:=(bG _ W).drew.trans (hbn.mono (by show _<=W.heap.size;omega));have HBa:=ab hbn;clear hbn;have HU1:=ab hU1;clear hU1;have HT1:=ab hT1;clear hT1;have HV1:=ab hv1;clear hv1)
   | (go_at_call_of 71 (ao D m d);refine(gn D m d B ys w1 hmd om (by have:=HBa.out.size;have h2:W.drew.heap.size=W.heap.size:=rfl;omega) (HY.out.below (HB0.out.trans (hB1.mono om)) hB)).mono ?_;rintro e w2 ⟨A2,j2,c2,z2,rfl,hj2,hU2,hT2,hv2,hbn⟩;obtain rfl:m=j2:=by { rw[aD hU2 hT2,hv2];exact HNY.out };have HBb:=ab hbn;clear hbn;have HU2:=ab hU2;clear hU2;have HT2:=ab hT2;clear hT2;have HV2:=ab hv2;clear hv2;have hB2:Below (w.heap.size+2) W w2:=hB1.trans (HBb.out.mono (by have:=hB1.size;omega))))
 have HB2:=ab hB2;clear hB2 hB1;have HU1':Hid (cE w2 w2.heap.size A1 n z1):=ab ((HU1.out.below HBb.out (ag _)).more HBb.out.size);have HKK:Hid (fV w2 (w.heap.size+2) 50 #[.bool false,.slice none 0 0]):=ab ((fV.below (w:=W.drew) HK3.out HBa.out hg2).below HBb.out (by have:=HBa.out.size;have h2:W.drew.heap.size=W.heap.size:=rfl;omega))
 have hz2:w.heap.size+2<w2.heap.size:=HKK.out.lt;obtain⟨c0,c1',c2',c3',_⟩:=HS.out _ HB2.out;clear a0 a1 b0 b1 HU1 HBa HBb;by_cases hs:s1=s2
 .subst hs;have hbq:(s1==s1)=true:=by simp
  go_wp2
  go_region_held3 (fun w'=>w'.cell? ⟨w.heap.size,0,none⟩=some (.bool s1)/\w'.cell? ⟨w.heap.size,1,none⟩=some (.slice A n c)/\w'.cell? ⟨w.heap.size+1,0,none⟩=some (.bool s1)/\w'.cell? ⟨w.heap.size+1,1,none⟩=some (.slice D m d)/\Below (w.heap.size+2) W w')
   (first|assumption|exact HS.out _ HB2.out.drew|exact HS.out _ (by assumption)|exact HS.out _ (ej (ej (by assumption) sm _) sm _))
   (first
    | (go_at_call 145;refine(NV A1 A2 n m c1 c2 w2.heap.size z1 z2 w2.drew om om (ag _) HU1'.out HU2.out).mono ?_;rintro e w3 ⟨A3,j3,c3,z3,rfl,hj3,hl3,hU3,hv3,hbn⟩;have hB3:Below (w.heap.size+2) W w3:=HB2.out.drew.trans (hbn.mono (by show _<=w2.heap.size;omega));have HK5:=ab (fV.below (w:=w2.drew) HKK.out hbn hz2);clear hbn;have HU3:=ab hU3;clear hU3;have HV3:=ab hv3;clear hv3;have hz3:=HK5.out.lt)
    | (go_at_call 103;refine(lI s1 A3 j3 c3 w3.heap.size z3 w3 hj3 om (ag _) HU3.out).mono ?_;rintro e w4 ⟨v,rfl,hI,hbn⟩;obtain⟨neg,A4,n4,c4,z4,rfl,hI2⟩:=hI;have hB4:Below (w.heap.size+2) W w4:=hB3.trans (hbn.mono om);have HI:=ab hI2;clear hI2;have hk3:=HK5.out.below hbn hz3;obtain⟨e0,e1⟩:=eS hk3;have f0:=hk3.frozen 0;have f1:=hk3.frozen 1;have HK4:=ab hk3;clear hk3 hbn))
  go_wp2;exact cO (v:=.agg #[.bool neg,.slice A4 n4 c4]) (by simp[results,Td,go_sem,e0,e1]) rfl
   (dI.cell ⟨neg,A4,n4,c4,z4,rfl,HI.out⟩ HK4.out (HB0.out.trans (hB4.mono om)) om (by rw[HV3.out,HV1.out,HV2.out,xv]))
 .have hbq:(s1==s2)=false:=by simpa using hs
  rcases aB (bC xs) (bC ys)with hlt|hge
  .have HCM:Hid (lh (bC z1) (bC z2)=-1):=ab (by rw[HV1.out,HV2.out];exact lC hlt)
   have hjj:n<=m:=by rw[HNX.out,HNY.out];exact fJ (dq hlt)
   have HLE:Hid (bC z1<=bC z2):=ab (by rw[HV1.out,HV2.out];omega)
   have HLT:=ab hlt;clear hlt
   go_wp2_with fail
   refine(lY A1 A2 n m c1 c2 w2.heap.size z1 z2 w2 om om HU1'.out HU2.out HT1.out HT2.out).mono ?_;rintro e w5 ⟨rfl,hst⟩;rw[HCM.out];obtain⟨q,rfl⟩:=hst;have HU1q:Hid (cE (w2.drewN q) (w2.drewN q).heap.size A1 n z1):=ab HU1'.out;have HU2q:Hid (cE (w2.drewN q) (w2.drewN q).heap.size A2 m z2):=ab HU2.out;have HKq:Hid (fV (w2.drewN q) (w.heap.size+2) 50 #[.bool false,.slice none 0 0]):=ab HKK.out;have HB2q:Hid (Below (w.heap.size+2) W (w2.drewN q)):=ab (HB2.out.trans ((dT.refl w2).more q |>.below _))
   have hzq:w.heap.size+2<(w2.drewN q).heap.size:=hz2;generalize w2.drewN q=wq at HU1q HU2q HKq HB2q hzq ⊢;obtain⟨q0,q1,q2,q3,_⟩:=HS.out _ HB2q.out;clear HB2 HU1' HKK hz2 c0 c1' c2' c3' HU2;go_wp2
   go_region_held3 (fun w'=>w'.cell? ⟨w.heap.size,0,none⟩=some (.bool s1)/\w'.cell? ⟨w.heap.size,1,none⟩=some (.slice A n c)/\w'.cell? ⟨w.heap.size+1,0,none⟩=some (.bool s2)/\w'.cell? ⟨w.heap.size+1,1,none⟩=some (.slice D m d)/\Below (w.heap.size+2) W w')
    (first|assumption|exact HS.out _ HB2q.out.drew|exact HS.out _ (by assumption)|exact HS.out _ (ej (ej (by assumption) sm _) sm _))
    (first
     | (go_at_call 146;refine(lB A2 A1 m n c2 c1 wq.heap.size z2 z1 wq.drew hjj om (ag _) HU2q.out HU1q.out HLE.out).mono ?_;rintro e w3 ⟨A3,j3,c3,z3,rfl,hj3,hl3,hU3,hv3,hbn⟩;have hB3:Below (w.heap.size+2) W w3:=HB2q.out.drew.trans (hbn.mono (by show _<=wq.heap.size;omega));have HK5:=ab (fV.below (w:=wq.drew) HKq.out hbn hzq);clear hbn;have HU3:=ab hU3;clear hU3;have HV3:=ab hv3;clear hv3;have hz3:=HK5.out.lt)
     | (go_at_call 103;refine(lI s2 A3 j3 c3 w3.heap.size z3 w3 hj3 om (ag _) HU3.out).mono ?_;rintro e w4 ⟨v,rfl,hI,hbn⟩;obtain⟨neg,A4,n4,c4,z4,rfl,hI2⟩:=hI;have hB4:Below (w.heap.size+2) W w4:=hB3.trans (hbn.mono om);have HI:=ab hI2;clear hI2;have hk3:=HK5.out.below hbn hz3;obtain⟨e0,e1⟩:=eS hk3;have f0:=hk3.frozen 0;have f1:=hk3.frozen 1;have HK4:=ab hk3;clear hk3 hbn))
   go_wp2;exact cO (v:=.agg #[.bool neg,.slice A4 n4 c4]) (by simp[results,Td,go_sem,e0,e1]) rfl
    (dI.cell ⟨neg,A4,n4,c4,z4,rfl,HI.out⟩ HK4.out (HB0.out.trans (hB4.mono om)) om (by rw[HV3.out,HV1.out,HV2.out];exact B8 hs (dq HLT.out)))
  .have HCM:Hid (0<=lh (bC z1) (bC z2)):=ab (by
    rw[HV1.out,HV2.out];rcases aB (bC ys) (bC xs)with h|h
    .rw[kC h];omega
    .rw[lD om];omega)
   have hjj:m<=n:=by rw[HNX.out,HNY.out];exact fJ hge
   have HLE:Hid (bC z2<=bC z1):=ab (by rw[HV1.out,HV2.out];omega)
   have HGE:=ab hge;clear hge
   go_wp2_with fail
   refine(lY A1 A2 n m c1 c2 w2.heap.size z1 z2 w2 om om HU1'.out HU2.out HT1.out HT2.out).mono ?_;rintro e w5 ⟨rfl,hst⟩;have hcm:=HCM.out;have hcm2:=(qr (bC z1) (bC z2)).2;generalize lh (bC z1) (bC z2)=cm at hcm hcm2 ⊢;obtain⟨q,rfl⟩:=hst;have HU1q:Hid (cE (w2.drewN q) (w2.drewN q).heap.size A1 n z1):=ab HU1'.out;have HU2q:Hid (cE (w2.drewN q) (w2.drewN q).heap.size A2 m z2):=ab HU2.out;have HKq:Hid (fV (w2.drewN q) (w.heap.size+2) 50 #[.bool false,.slice none 0 0]):=ab HKK.out;have HB2q:Hid (Below (w.heap.size+2) W (w2.drewN q)):=ab (HB2.out.trans ((dT.refl w2).more q |>.below _))
   have hzq:w.heap.size+2<(w2.drewN q).heap.size:=hz2;generalize w2.drewN q=wq at HU1q HU2q HKq HB2q hzq ⊢;obtain⟨q0,q1,q2,q3,_⟩:=HS.out _ HB2q.out;clear HB2 HU1' HKK hz2 c0 c1' c2' c3' HU2;go_wp2
   go_region_held3 (fun w'=>w'.cell? ⟨w.heap.size,0,none⟩=some (.bool s1)/\w'.cell? ⟨w.heap.size,1,none⟩=some (.slice A n c)/\w'.cell? ⟨w.heap.size+1,0,none⟩=some (.bool s2)/\w'.cell? ⟨w.heap.size+1,1,none⟩=some (.slice D m d)/\Below (w.heap.size+2) W w')
    (first|assumption|exact HS.out _ HB2q.out.drew|exact HS.out _ (by assumption)|exact HS.out _ (ej (ej (by assumption) sm _) sm _))
    (first
     | (go_at_call 146;refine(lB A1 A2 n m c1 c2 wq.heap.size z1 z2 wq.drew hjj om (ag _) HU1q.out HU2q.out HLE.out).mono ?_;rintro e w3 ⟨A3,j3,c3,z3,rfl,hj3,hl3,hU3,hv3,hbn⟩;have hB3:Below (w.heap.size+2) W w3:=HB2q.out.drew.trans (hbn.mono (by show _<=wq.heap.size;omega));have HK5:=ab (fV.below (w:=wq.drew) HKq.out hbn hzq);clear hbn;have HU3:=ab hU3;clear hU3;have HV3:=ab hv3;clear hv3;have hz3:=HK5.out.lt)
     | (go_at_call 103;refine(lI s1 A3 j3 c3 w3.heap.size z3 w3 hj3 om (ag _) HU3.out).mono ?_;rintro e w4 ⟨v,rfl,hI,hbn⟩;obtain⟨neg,A4,n4,c4,z4,rfl,hI2⟩:=hI;have hB4:Below (w.heap.size+2) W w4:=hB3.trans (hbn.mono om);have HI:=ab hI2;clear hI2;have hk3:=HK5.out.below hbn hz3;obtain⟨e0,e1⟩:=eS hk3;have f0:=hk3.frozen 0;have f1:=hk3.frozen 1;have HK4:=ab hk3;clear hk3 hbn))
   go_wp2;exact cO (v:=.agg #[.bool neg,.slice A4 n4 c4]) (by simp[results,Td,go_sem,e0,e1]) rfl
    (dI.cell ⟨neg,A4,n4,c4,z4,rfl,HI.out⟩ HK4.out (HB0.out.trans (hB4.mono om)) om (by rw[HV3.out,HV1.out,HV2.out];exact vY hs HGE.out))

def KR(va vb:Value)(za zb:Int)(B:Nat)(w:World)(hB:B<=w.heap.size)(ha:ew w B va za)(hb:ew w B vb zb)(sa:nl za.natAbs<=1073741824)(sb:nl zb.natAbs<=1073741824) :
  Calls ak 66 #[va,vb] w (dI w (za-zb)):=by
 have HA:=ab ha;have HBv:=ab hb;have HSA:=ab sa;clear sa;have HSB:=ab sb;clear sb;obtain⟨s1,A,n,c,xs,rfl,hnc,hx,tx,rfl⟩:=ha;obtain⟨s2,D,m,d,ys,rfl,hmd,hy,ty,rfl⟩:=hb;clear hx tx hy ty
 go_enter func66,ntmps66
 go_wp2;obtain⟨hb0,k1,k2,k3⟩:=Ay w #[au s1,ao A n c] #[au s2,ao D m d] #[au false,ao none 0 0];generalize (((w.alloc (Obj.cells #[au s1,ao A n c] 50)).alloc (Obj.cells #[au s2,ao D m d] 50)).alloc (Obj.cells #[au false,ao none 0 0] 50))=W at hb0 k1 k2 k3 ⊢;obtain⟨a0,a1⟩:=eS k1;obtain⟨b0,b1⟩:=eS k2;have HK3:=ab k3;clear k3 k1 k2;have HB0:=ab hb0;clear hb0;have hg2:w.heap.size+2<W.heap.size:=HK3.out.lt;have HS:=ab (show ∀w1,Below (w.heap.size+2) W w1->(w1.cell? ⟨w.heap.size,0,none⟩=some (.bool s1)/\w1.cell? ⟨w.heap.size,1,none⟩=some (.slice A n c)/\w1.cell? ⟨w.heap.size+1,0,none⟩=some (.bool s2)/\w1.cell? ⟨w.heap.size+1,1,none⟩=some (.slice D m d)/\Below (w.heap.size+2) W w1)from
  fun w1 h=>⟨(h.cell (by show w.heap.size<_;omega)).trans a0,(h.cell (by show w.heap.size<_;omega)).trans a1,(h.cell (by show w.heap.size+1<_;omega)).trans b0,(h.cell (by show w.heap.size+1<_;omega)).trans b1,h⟩)
 go_region_held3 (fun w'=>w'.cell? ⟨w.heap.size,0,none⟩=some (.bool s1)/\w'.cell? ⟨w.heap.size,1,none⟩=some (.slice A n c)/\w'.cell? ⟨w.heap.size+1,0,none⟩=some (.bool s2)/\w'.cell? ⟨w.heap.size+1,1,none⟩=some (.slice D m d)/\Below (w.heap.size+2) W w')
  (first|exact HS.out _ (bG _ _).drew|assumption|exact HS.out _ (by assumption)|exact HS.out _ (ej (ej (by assumption) sm _) sm _))
  (first
   | (go_at_call 68;refine(CF _ _ B W.drew (by show B<=W.heap.size;omega) (HBv.out.below HB0.out.drew hB) (by have:=HSB.out;omega)).mono ?_;rintro e w1 ⟨v,rfl,hI1,hbn⟩;have HI1:=ab hI1;clear hI1;have hB1:Below (w.heap.size+2) W w1:=(bG _ W).drew.trans (hbn.mono (by show _<=W.heap.size;omega));have HK2:=ab (fV.below (w:=W.drew) HK3.out hbn hg2);clear hbn;have hsz:=HK2.out.lt)
   | (go_at_call 87;refine(CR _ _ _ _ w1.heap.size w1 (ag _) ((HA.out.below (HB0.out.trans (hB1.mono om)) hB).more om) HI1.out HSA.out (by rw[TC];exact HSB.out)).mono ?_;rintro e w2 ⟨v,rfl,hI,hbn⟩;obtain⟨neg,A2,n2,c2,zs2,rfl,hI2⟩:=hI;have hB2:Below (w.heap.size+2) W w2:=hB1.trans (hbn.mono om);have HI:=ab hI2;clear hI2;have hk3:=HK2.out.below hbn hsz;obtain⟨e0,e1⟩:=eS hk3;have f0:=hk3.frozen 0;have f1:=hk3.frozen 1;have HK4:=ab hk3;clear hk3 hbn))
 go_wp2;exact cO (v:=.agg #[.bool neg,.slice A2 n2 c2]) (by simp[results,results66,go_sem,e0,e1]) rfl
   (dI.cell ⟨neg,A2,n2,c2,zs2,rfl,HI.out⟩ HK4.out (HB0.out.trans (hB2.mono om)) om om)
def Ld(va vb:Value)(za zb:Int)(B:Nat)(w:World)(hB:B<=w.heap.size)(ha:ew w B va za)(hb:ew w B vb zb)(sa:nl za.natAbs<=1073741824)(sb:nl zb.natAbs<=1073741824) :
  Calls ak 30 #[va,vb] w fun e w'=>e=.returned (.int .i64 (jU za zb))/\Below w.heap.size w w':=by
 have hA:=ha;have hBb:=hb;have HS0:=ab sa;have HS1:=ab sb;obtain⟨s1,A,n,c,xs,rfl,hnc,hx,tx,rfl⟩:=ha;obtain⟨s2,D,m,d,ys,rfl,hmd,hy,ty,rfl⟩:=hb;rw[fG,<-aD hx tx]at sa;rw[fG,<-aD hy ty]at sb;have HA:=ab hA;clear hA;have HBb:=ab hBb;clear hBb;have HX:=ab hx;clear hx;have HY:=ab hy;clear hy;have HTX:=ab tx;clear tx;have HTY:=ab ty;clear ty;have HZ:=ab (@Ar (sg s1 (bC xs)) (sg s2 (bC ys)));have HZ2:=ab (@Cr s1 s2 (bC xs) (bC ys));have HP:Hid (-1<=(sg s1 (bC xs)).sign/\(sg s1 (bC xs)).sign<=1):=ab (by rcases nJ s1 (bC xs)with h|h|h<;>omega)
 generalize hp:(sg s1 (bC xs)).sign=p at HZ HZ2 HP;generalize hq:(sg s2 (bC ys)).sign=q at HZ HZ2;generalize hcz:jU (sg s1 (bC xs)) (sg s2 (bC ys))=r at HZ HZ2 ⊢;have hcr:=qr (bC xs) (bC ys);generalize hcm:lh (bC xs) (bC ys)=cm at HZ2 hcr;have Hp:=ab hp;clear hp;have Hq:=ab hq;clear hq;have Hcm:=ab hcm;clear hcm;clear hcz
 go_enter func30,ntmps30
 go_wp2;obtain⟨hb0,k1,k2⟩:=rB w #[au s1,ao A n c] #[au s2,ao D m d];generalize ((w.alloc (Obj.cells #[au s1,ao A n c] 50)).alloc (Obj.cells #[au s2,ao D m d] 50))=W at hb0 k1 k2 ⊢;obtain⟨a0,a1⟩:=eS k1;obtain⟨b0,b1⟩:=eS k2;have HB0:=ab hb0;clear hb0;have hg2:w.heap.size+1<W.heap.size:=k2.lt;have hg1:w.heap.size+2<=W.heap.size:=hg2;clear k1 k2;have HS:=ab (show ∀w1,Below (w.heap.size+2) W w1->(w1.cell? ⟨w.heap.size,0,none⟩=some (.bool s1)/\w1.cell? ⟨w.heap.size,1,none⟩=some (.slice A n c)/\w1.cell? ⟨w.heap.size+1,0,none⟩=some (.bool s2)/\w1.cell? ⟨w.heap.size+1,1,none⟩=some (.slice D m d)/\Below (w.heap.size+2) W w1)from
  fun w1 h=>⟨(h.cell (by show w.heap.size<_;omega)).trans a0,(h.cell (by show w.heap.size<_;omega)).trans a1,(h.cell (by show w.heap.size+1<_;omega)).trans b0,(h.cell (by show w.heap.size+1<_;omega)).trans b1,h⟩)
 go_region_held3 (fun w'=>w'.cell? ⟨w.heap.size,0,none⟩=some (.bool s1)/\w'.cell? ⟨w.heap.size,1,none⟩=some (.slice A n c)/\w'.cell? ⟨w.heap.size+1,0,none⟩=some (.bool s2)/\w'.cell? ⟨w.heap.size+1,1,none⟩=some (.slice D m d)/\Below (w.heap.size+2) W w')
  (first|exact HS.out _ (bG _ _).drew|assumption|exact HS.out _ (by assumption))
  (first
   | (go_at_call_of 64 (Value.agg #[au s1,ao A n c]);refine(tq _ _ B W.drew (by show B<=W.heap.size;omega) (HA.out.below HB0.out.drew hB) (by have:=HS0.out;omega)).mono ?_;rintro e w1 ⟨rfl,hbn⟩;rw[Hp.out];have hB1:Below (w.heap.size+2) W w1:=(bG _ W).drew.trans (hbn.mono hg1);clear hbn)
   | (go_at_call_of 64 (Value.agg #[au s2,ao D m d]);refine(tq _ _ B w1 (by have:=hB1.size;omega) (HBb.out.below (HB0.out.trans (hB1.mono om)) hB) (by have:=HS1.out;omega)).mono ?_;rintro e w2 ⟨rfl,hbn⟩;rw[Hq.out];have hB2:Below (w.heap.size+2) W w2:=hB1.trans (hbn.mono (by have:=hB1.size;omega));clear hbn hB1))
 have HB2:=ab hB2;obtain⟨c0,c1,c2,c3,_⟩:=HS.out _ hB2;clear hB2 a0 a1 b0 b1;rcases eM p q with hlt|heq|hgt
 .have HR:=ab (HZ.out.1 hlt);have hne:(p != q)=true:=by simp;omega
  have hne2:¬p=q:=om
  go_wp2;go_ret;exact⟨by rw[HR.out];rfl,HB0.out.trans (HB2.out.mono om)⟩
 .subst heq;have HR:=ab (HZ2.out rfl);have HNX:=ab (aD HX.out HTX.out);have HNY:=ab (aD HY.out HTY.out);have hz2:w.heap.size+2<=w2.heap.size:=by have:=HB2.out.size;omega
  have HC:=ab (show ∀w1,Below (w.heap.size+2) W w1->w1.cell? ⟨w.heap.size,1,none⟩=some (.slice A n c)/\w1.cell? ⟨w.heap.size+1,1,none⟩=some (.slice D m d)/\Below (w.heap.size+2) W w1 from fun w1 h=>⟨(HS.out w1 h).2.1,(HS.out w1 h).2.2.2.1,h⟩);have hp3:p=-1∨p=0∨p=1:=by have:=HP.out;omega
  clear HZ HZ2;rcases hp3 with rfl|rfl|rfl
  all_goals
   go_wp2
   go_region_held3 (fun w'=>w'.cell? ⟨w.heap.size,1,none⟩=some (.slice A n c)/\w'.cell? ⟨w.heap.size+1,1,none⟩=some (.slice D m d)/\Below (w.heap.size+2) W w')
    (first|assumption|exact HC.out _ HB2.out.drew|exact HC.out _ (by assumption))
    (first
     | (go_at_call_of 71 (ao A n c);refine(gn A n c B xs w2.drew hnc om (by show B<=w2.heap.size;omega) (HX.out.below (HB0.out.trans (HB2.out.mono om)).drew hB)).mono ?_;rintro e w3 ⟨A1,j1,c1,z1,rfl,hj1,hU1,hT1,hv1,hbn⟩;obtain rfl:n=j1:=by { rw[aD hU1 hT1,hv1];exact HNX.out };have hB3:Below (w.heap.size+2) W w3:=HB2.out.drew.trans (hbn.mono (by show _<=w2.heap.size;omega));clear hbn;have HU1:=ab hU1;clear hU1;have HT1:=ab hT1;clear hT1;have HV1:=ab hv1;clear hv1)
     | (go_at_call_of 71 (ao D m d);refine(gn D m d B ys w3 hmd om (by have:=hB3.size;omega) (HY.out.below (HB0.out.trans (hB3.mono om)) hB)).mono ?_;rintro e w4 ⟨A2,j2,c2,z2,rfl,hj2,hU2,hT2,hv2,hbn⟩;obtain rfl:m=j2:=by { rw[aD hU2 hT2,hv2];exact HNY.out };have HBb:=ab hbn;clear hbn;have HU2:=ab hU2;clear hU2;have HT2:=ab hT2;clear hT2;have HV2:=ab hv2;clear hv2;have hB4:Below (w.heap.size+2) W w4:=hB3.trans (HBb.out.mono (by have:=hB3.size;omega)))
     | (go_at_call 70;refine(lY A1 A2 n m c1 c2 w4.heap.size z1 z2 w4 om om ((HU1.out.below HBb.out (ag _)).more HBb.out.size) HU2.out HT1.out HT2.out).mono ?_;rintro e w5 ⟨rfl,hst⟩;rw[HV1.out,HV2.out,Hcm.out];have hB5:Below (w.heap.size+2) W w5:=hB4.trans (hst.below _);clear hst))
   go_wp2;go_ret;exact⟨by rw[<-HR.out];first|rfl|(simp;first|done|exact Dx om om),HB0.out.trans (hB5.mono om)⟩
 .have HR:=ab (HZ.out.2 hgt);have hn:¬p<q:=om
  have hne:(p != q)=true:=by simp;omega
  have hne2:¬p=q:=om
  go_wp2;go_ret;exact⟨by rw[HR.out];rfl,HB0.out.trans (HB2.out.mono om)⟩

def yD(A:Option Addr)(n c L:Nat)(xs:List Nat)(w:World)(hn:n<=2)(hx:cE w L A n xs) :
  Calls ak 128 #[.slice A n c] w fun e w'=>e=.returned (.int .u64 (bC xs))/\w=w':=by
 have HX:=ab hx;clear hx
 go_enter func128,ntmps128
 go_wp2
 go_loop [3,4] (fun v i=>∃k:Nat,k<=n/\i=.int .i64 k/\v=.int .u64 (bC (xs.take k))) (fun _ i=>n-(intOf i).toNat)
 case atStart=>exact⟨0,lu _,rfl,by simp[bC]⟩
 case round =>
  obtain⟨k,hk,rfl,rfl⟩:=hrel;by_cases hkn:k<n
  .obtain⟨ad,x,rfl,_,hxx,hx4,h1⟩:=HX.out.at_ hkn;have HXX:=ab hxx;clear hxx;have hv:=jr (HX.out.2.1.take k);have hk2:k=0∨k=1:=om
   rcases hk2 with rfl|rfl
   .simp only[Addr.add,aj]at h1;have hn0:(0:Int)<n:=om
    go_wp2;refine⟨⟨1,om,rfl,?_⟩,by simp[intOf];omega⟩
    have hx1:xs.take 1=[x]:=by
     rw[nF (by rw[HX.out.1];omega)]
     have:=HXX.out;simp only[dh,bE (show 0<xs.length by rw[HX.out.1];omega),iB]at this
     simp[this]
    rw[hx1];have h5:=yb 0 x om om;simp only[Nat.zero_or]at h5;simpa [bC]using h5
   .simp only[Addr.add,Tl,aH]at h1;have hn0:(1:Int)<n:=om
    go_wp2;refine⟨⟨2,om,rfl,?_⟩,by simp[intOf];omega⟩
    rw[dX xs 1 (by rw[HX.out.1];omega),HXX.out]
    simp only[gP]at hv;rw[zg (cZ hv (by
     rw[HX.out.1,ip om];omega)) hx4,SE,aA x]
  .obtain rfl:k=n:=om
   have hkk:¬(k:Int)<k:=om
   go_wp2;go_ret;exact⟨by rw[bR (by rw[HX.out.1];exact ag _)];rfl,rfl⟩
def KW(va vb:Value)(za zb:Int)(B:Nat)(w:World)(hB:B<=w.heap.size)(ha:ew w B va za)(hb:ew w B vb zb)(sa:nl za.natAbs<=268435456)(sb:nl zb.natAbs<=268435456) :
  Calls ak 67 #[va,vb] w (dI w (za*zb)):=by
 obtain⟨s1,A,n,c,xs,rfl,hnc,hx,tx,rfl⟩:=ha;obtain⟨s2,D,m,d,ys,rfl,hmd,hy,ty,rfl⟩:=hb;rw[fG,<-aD hx tx]at sa;rw[fG,<-aD hy ty]at sb;have HX:=ab hx;clear hx;have HY:=ab hy;clear hy;clear tx ty;have hmk:=Dr (n+m) om;rw[eD]at hmk
 go_enter func67,ntmps67
 go_wp2;clear hmk;obtain⟨hb0,k1,k2,k3⟩:=Ay w #[au s1,ao A n c] #[au s2,ao D m d] #[au false,ao none 0 0];have hWs:(((w.alloc (Obj.cells #[au s1,ao A n c] 50)).alloc (Obj.cells #[au s2,ao D m d] 50)).alloc (Obj.cells #[au false,ao none 0 0] 50)).heap.size=w.heap.size+1+1+1:=by simp
 generalize (((w.alloc (Obj.cells #[au s1,ao A n c] 50)).alloc (Obj.cells #[au s2,ao D m d] 50)).alloc (Obj.cells #[au false,ao none 0 0] 50))=W at hb0 k1 k2 k3 hWs ⊢;rw[<-hWs];have HK1:=ab k1;clear k1;have HK2:=ab k2;clear k2;have HK3:=ab k3;clear k3;have HB0:=ab hb0;clear hb0;have hWs2:w.heap.size+3=W.heap.size:=om
 have HXW:Hid (cE W B A n xs):=ab (HX.out.below HB0.out hB);have HYW:Hid (cE W B D m ys):=ab (HY.out.below HB0.out hB);have HL:Hid (B<=W.heap.size):=ab om;have HCC:Hid (∀wr,Below W.heap.size W wr->(wr.cell? ⟨w.heap.size,0,none⟩=some (.bool s1)/\wr.cell? ⟨w.heap.size,1,none⟩=some (.slice A n c))/\(wr.cell? ⟨w.heap.size+1,0,none⟩=some (.bool s2)/\wr.cell? ⟨w.heap.size+1,1,none⟩=some (.slice D m d))):=ab (fun wr h=>⟨eS (HK1.out.below h om),eS (HK2.out.below h om)⟩);have HWS:=ab hWs;clear hWs;have HWS2:=ab hWs2;clear hWs2
 go_loopw [22] (fun iv wr=>∃(i:Nat) (ps:List Nat),i<=n/\iv=.int .i64 i/\Hid (iA W wr ps)/\Hid (kL ps xs ys i)) (fun iv _=>n-(intOf iv).toNat)
 case atStart=>exact⟨0,_,om,rfl,ab (iA.start W (n+m)),ab (kL.init xs ys (n+m) (by rw[HX.out.1,HY.out.1]))⟩
 case round =>
  obtain⟨i,ps,hi,rfl,HF,HS⟩:=hrel;obtain⟨⟨q0,q1⟩,⟨q2,q3⟩⟩:=HCC.out _ HF.out.1;by_cases hin:i<n
  .obtain⟨ad,x,rfl,hab,hxx,hx4,hcx⟩:=(HXW.out.below HF.out.1 HL.out).at_ (k:=i) om;have HXX:=ab hxx;clear hxx;have hin':(i:Int)<n:=om
   have hi0:(0:Int)<=i:=om
   go_wp2
   go_loopw [8,30] (fun cv jv wr'=>∃(j car:Nat) (qs:List Nat),j<=m/\jv=.int .i64 j/\cv=.int .u64 car/\car<4294967296/\Hid (iA W wr' qs)/\Hid (sN ps qs ys x i j car)) (fun _ jv _=>m-(intOf jv).toNat)
   case atStart=>exact⟨0,0,ps,om,rfl,rfl,om,HF,ab HS.out.start⟩
   case round =>
    clear HF hcx q0 q1 q2 q3;obtain⟨j,car,qs,hj,rfl,rfl,hcar,HG,HI⟩:=hrel;have hql:qs.length=n+m:=by rw[HI.out.len,HS.out.len,HX.out.1,HY.out.1]
    obtain⟨⟨q0,q1⟩,⟨q2,q3⟩⟩:=HCC.out _ HG.out.1;by_cases hjm:j<m
    .obtain⟨bd,y,rfl,hbb,hyy,hy4,hcy⟩:=(HYW.out.below HG.out.1 HL.out).at_ (k:=j) om;have HYY:=ab hyy;clear hyy;obtain⟨hcp,hfp⟩:=HG.out.at_ (i+j) om;have hp4:=HI.out.lim.getD (i+j);generalize hpp:qs.getD (i+j) 0=p at hcp hp4;have HPP:=ab hpp;clear hpp;obtain⟨z,hz,hz4⟩:∃z:Nat,x*y=z/\z<=18446744065119617025:=⟨_,rfl,nR hx4 hy4⟩;have hzi:(x:Int)*(y:Int)=(z:Int):=by rw[<-hz];simp
     have HZ:=ab hz;clear hz;have hjm':(j:Int)<m:=om
     have hj0:(0:Int)<=j:=om
     have hij:(i:Int)+j<n+m:=om
     have hij0:(0:Int)<=(i:Int)+j:=om
     have hIJ:((i:Int)+(j:Int)).toNat=i+j:=om
     go_wp2
     go_roundw
     case rel =>
      have h5:=HI.out.step (by rw[HY.out.1];exact hjm) om HYY.out HPP.out hx4 hy4 hp4
      have h6:=HG.out.put (i+j) ((car+(x*y+p))%4294967296);rw[HZ.out]at h5 h6;exact⟨j+1,(car+(z+p))/4294967296,_,om,by go_num,by go_num,om,ab (by simpa using h6),ab h5⟩
     case measure=>simp[intOf];omega
    .obtain rfl:j=m:=om
     obtain⟨hcp,hfp⟩:=HG.out.at_ (i+j) om;have HN:=ab (HS.out.next HI.out HY.out.1 (by rw[HX.out.1];exact hin) HXX.out)
     have HP:=ab (HG.out.put (i+j) car);have hj0:(0:Int)<=j:=om
     have hij:(i:Int)+j<n+j:=om
     have hij0:(0:Int)<=(i:Int)+j:=om
     have hIJ:((i:Int)+(j:Int)).toNat=i+j:=om
     go_wp2
     go_roundw
     case rel=>exact⟨i+1,_,om,by go_num,ab (by simpa using HP.out),HN⟩
     case measure=>simp[intOf];omega
  .obtain rfl:i=n:=om
   have hii:¬(i:Int)<i:=om
   go_wp2_with fail
   have hl:=HS.out.len;rw[HX.out.1,HY.out.1]at hl;have hU:=cE.ofBlk HF.out.2 HS.out.lim HF.out.2.lt rfl;rw[hl]at hU;have hv:=HS.out.eq;rw[bR (by rw[HX.out.1];exact ag _)]at hv
   have HBn:=ab HF.out.1;have HK:Hid (fV wr (w.heap.size+2) 50 #[.bool false,.slice none 0 0]):=ab (HK3.out.below HBn.out (by have:=HWS2.out;omega))
   have HV:=ab hv;clear hv;have hwr:w.heap.size+3<=wr.heap.size:=by have:=HBn.out.size;have:=HWS2.out;omega
   have HBW:Hid (Below w.heap.size w wr):=ab (HB0.out.trans (HBn.out.mono (by have:=HWS2.out;omega)))
   refine(lI (s1 != s2) _ _ _ _ _ _ (ag _) om (ag _) hU).mono ?_;clear hU hl;rintro e w2 ⟨v,rfl,hI,hb2⟩;obtain⟨neg,A2,n2,c2,zs2,rfl,hI2⟩:=hI;have hblk:fV w2 (w.heap.size+2) 50 #[.bool false,.slice none 0 0]:=fV.below (w:=wr) HK.out hb2 om;obtain⟨e0,e1⟩:=eS hblk;have f0:=hblk.frozen 0;have f1:=hblk.frozen 1;have HK2:=ab hblk;clear hblk;have HI:=ab hI2;clear hI2;have HB2:=ab hb2;clear hb2;go_wp2;exact cO (v:=.agg #[.bool neg,.slice A2 n2 c2]) (by simp[results,results67,go_sem,e0,e1]) rfl
    (dI.cell ⟨neg,A2,n2,c2,zs2,rfl,HI.out⟩ HK2.out (HBW.out.trans (HB2.out.mono (by first|omega|(simp;done)|(simp;omega)))) om (by rw[HV.out,LK]))

def Ef(va:Value)(za:Int)(B:Nat)(w:World)(hB:B<=w.heap.size)(ha:ew w B va za)(hz:iw za) :
  Calls ak 72 #[va] w fun e w'=>e=.returned (.tuple #[.int .i64 za,.bool true])/\Below w.heap.size w w':=by
 obtain⟨s1,A,n,c,xs,rfl,hnc,hx,tx,rfl⟩:=ha;obtain⟨hz1,hz2⟩:=hz;have hn:n<=2:=by
  rw[aD hx tx];refine jQ.2 ?_;have:(sg s1 (bC xs)).natAbs=bC xs:=fG s1 (bC xs);omega
 have hb0:=(bG w.heap.size w).alloc (ag _) (Obj.cells #[au s1,ao A n c] 50);have HU:=ab (hx.below hb0 hB);have HN:=ab (aD hx tx);have HX:=ab hx;clear hx;have HTX:=ab tx;clear tx;have HB:=ab hb0;clear hb0;have HK:=ab (fV.new w 50 #[au s1,ao A n c])
 cases s1
 .have hv:(sg false (bC xs))=(bC xs:Int):=by simp[sg]
  rw[hv]at hz1 hz2 ⊢;clear hv;generalize hvv:bC xs=v at hz1 hz2 ⊢;have HV:=ab hvv;clear hvv
  go_enter func72,ntmps72
  go_wp2_with fail
  refine(gn A n c B xs _ hnc om (by simp;omega) HU.out).mono ?_
  rintro e w1 ⟨A1,k,c1,zs,rfl,hk,hU1,hT1,hv1,hb1⟩;have hkn:n=k:=by rw[aD hU1 hT1,hv1];exact HN.out
  subst hkn;have hblk:=HK.out.below hb1 sm
  obtain⟨e0,e1⟩:=eS hblk;have HBB:=ab (HB.out.trans (hb1.mono sm))
  have HU1:=ab hU1;clear hU1;have HV1:=ab hv1;clear hv1;clear hblk hb1 hT1
  go_wp2_with fail
  refine(yD A1 n c1 _ zs _ hn HU1.out).mono ?_;rintro e w' ⟨rfl,rfl⟩;rw[HV1.out,HV.out];have hw:IntKind.i64.wrap (v:Int)=v:=Dx om om;have hl:(v:Int)<9223372036854775808:=om
  have hn3:¬(2:Int)<n:=om
  have hn4:decide ((2:Int)<n)=false:=by simpa using hn3
  clear hn hn3;have Hz1:=ab hz1;clear hz1;have Hz2:=ab hz2;clear hz2;go_wp2;go_ret2;exact⟨rfl,HBB.out⟩
 .have hv:(sg true (bC xs))=-(bC xs:Int):=by simp[sg]
  rw[hv]at hz1 hz2 ⊢;clear hv;generalize hvv:bC xs=v at hz1 hz2 ⊢;have HV:=ab hvv;clear hvv
  go_enter func72,ntmps72
  go_wp2_with fail
  refine(gn A n c B xs _ hnc om (by simp;omega) HU.out).mono ?_
  rintro e w1 ⟨A1,k,c1,zs,rfl,hk,hU1,hT1,hv1,hb1⟩;have hkn:n=k:=by rw[aD hU1 hT1,hv1];exact HN.out
  subst hkn;have hblk:=HK.out.below hb1 sm
  obtain⟨e0,e1⟩:=eS hblk;have HBB:=ab (HB.out.trans (hb1.mono sm))
  have HU1:=ab hU1;clear hU1;have HV1:=ab hv1;clear hv1;clear hblk hb1 hT1
  go_wp2_with fail
  refine(yD A1 n c1 _ zs _ hn HU1.out).mono ?_;rintro e w' ⟨rfl,rfl⟩;rw[HV1.out,HV.out];have hw:IntKind.i64.wrap (IntKind.u64.wrap (-(v:Int)))=-(v:Int):=by rw[cf,pL];omega
  have hl:(v:Int)<=9223372036854775808:=om
  have Hz1:=ab hz1;clear hz1;have Hz2:=ab hz2;clear hz2;go_wp2;go_ret2;exact⟨rfl,HBB.out⟩

structure Dbl(xs zs:List Nat)(b0 k car:Nat):Prop where
 len:zs.length=k
 lim:mV zs
 eq:bC zs+car*4294967296^k=2*bC (xs.take k)+b0
 car:car<=1
def QY{y:Nat}(a:c<=1):2*y ||| c=2*y+c:=by
 have h:=kD (i:=1) (b:=c) om y;rw[tC]at h;rw[aA 2 y,<-SE 2,<-h]
def Gs{x:Nat}(a:c<=1):bits .or .u32 ((x:Int)*2%4294967296) (c:Int)=((2*x%4294967296+c:Nat):Int):=by
 have h:=Tk (2*(x%2147483648)) c om om;rw[QY a]at h;have e:((x:Int)*2%4294967296)=((2*(x%2147483648):Nat):Int):=om
 rw[e];have b:2*x%4294967296=2*(x%2147483648):=om
 rw[b,<-h]
def Dbl.step{b0 car x:Nat}(h:Dbl xs zs b0 k car)(a:xs.getD k 0=x)(c:x<4294967296):Dbl xs (zs++[2*x%4294967296+car]) b0 (k+1) (x/2147483648):=by
 have d:=h.car;refine⟨by simp[h.len],h.lim.snoc om,?_,om⟩
 rw[iz,h.len,jn,a,bV];have e:=h.eq;have b:2*x%4294967296+4294967296*(x/2147483648)=2*x:=om
 generalize 2*x%4294967296=u at *;generalize x/2147483648=v at *;generalize (4294967296:Nat)^k=p at *;have f:p*(u+4294967296*v)=p*(2*x):=by rw[b]
 grind
def Ak(A:Option Addr)(n c L b0:Nat)(xs:List Nat)(w:World)(hn:n<=2147483648)(hL:L<=w.heap.size)(hx:cE w L A n xs)(hb0:b0<=1) :
  Calls ak 237 #[.slice A n c,.int .u32 b0] w (If w (2*bC xs+b0) (n+1)):=by
 have HX:=ab hx;clear hx
 go_enter func237,ntmps237
 go_wp2
 go_loopw [1,5,10] (fun cv ov iv wr=>∃(k car:Nat) (zs:List Nat),k<=n/\iv=.int .i64 k/\cv=.int .u32 car/\car<=1/\Hid (AS w wr ov zs)/\Hid (Dbl xs zs b0 k car)) (fun _ _ iv _=>n-(intOf iv).toNat)
 case atStart=>exact⟨0,b0,[],om,rfl,rfl,om,ab (AS.start w),ab ⟨rfl,by simp[mV],by simp[bC],om⟩⟩
 case round =>
  obtain⟨k,car,zs,hk,rfl,rfl,hcar,HO,HS⟩:=hrel;have hzl:=HS.out.len;have hk0:(0:Int)<=k:=om
  by_cases hkn:k<n
  .obtain⟨ad,x,rfl,hab,hxx,hx4,h1⟩:=(HX.out.below HO.out.2 hL).at_ (k:=k) hkn;have HXX:=ab hxx;clear hxx;have hkn':(k:Int)<n:=om
   have HPI:Hid (bits .or .u32 ((x:Int)*2%4294967296) (car:Int)=((2*x%4294967296+car:Nat):Int)):=ab (Gs hcar)
   go_wp2_with (at_builtin;rw[HPI.out];refine gZ rfl _ _ rfl w _ _ zs rfl HO.out (2*x%4294967296+car) _ rfl om ?_)
   intro v' w1 hO;have HO1:=ab hO;clear hO;go_wp2
   go_roundw
   case rel=>exact⟨k+1,x/2147483648,_,om,by go_num,by go_num,om,HO1,ab (HS.out.step HXX.out hx4)⟩
   case measure=>simp[intOf];omega
  .have hkn':¬(k:Int)<n:=om
   go_wp2_with (at_builtin;refine gZ rfl _ _ rfl w _ _ zs rfl HO.out car _ rfl om ?_)
   intro v' w1 hO;obtain⟨A',c',rfl⟩:=hO.slice;obtain⟨hU,hc⟩:=cE.ofOwn hO.1 (HS.out.lim.snoc om);have HU:=ab hU;have HB:=ab hO.2;have hv:bC (zs++[car])=2*bC xs+b0:=by
    have h5:=HS.out.eq;rw[bR (l:=xs) (by rw[HX.out.1];omega)]at h5
    rw[iz,HS.out.len,<-h5,aA]
   have HV:=ab hv;clear hU hO hv;go_wp2;go_ret;exact⟨_,_,_,_,rfl,hc,by simp[hzl];omega,HU.out,HV.out,HB.out⟩

def Fm(h:mV l)(j:Nat)(a:j<l.length):l.getD j 0=bC l/4294967296^j%4294967296:=by
 have b:=vR l j a;have c:bC (l.take j)<4294967296^j:=by
  have d:=jr (h.take j)
  rwa [gP,ip om]at d
 have e:=h.getD j;rw[b,SH _ _ (iL om),ed c,aJ,Nk,dR e]
def Pi(a s:Nat)(d:s<32):a%4294967296/2^s%2=a/2^s%2:=by
 have h:=Nat.testBit_mod_two_pow a 32 s;simp only[Nat.testBit_eq_decide_div_mod_eq,d,decide_true,Bool.true_and]at h;have e:(2:Nat)^32=4294967296:=by decide
 rw[e]at h;have b:=Lm (a%4294967296/2^s);have c:=Lm (a/2^s);rcases b with b|b<;>rcases c with c|c<;>simp[b,c]at h ⊢
def Jq(h:mV l)(i:Nat)(a:i<32*l.length):l.getD (i/32) 0/2^(i%32)%2=bC l/2^i%2:=by
 rw[Fm h (i/32) om,Pi _ _ om,Qy,zJ,<-fz];congr 3;omega
structure vG(V D Q R i:Nat):Prop where
 eq:V/2^i=Q*D+R
 lt:R<D
def vG.dig{i:Nat}(h:vG V D Q R (i+1)):V/2^i=2*(Q*D)+(2*R+V/2^i%2):=by
 have a:=h.eq;rw[bV,<-Qy]at a;omega
def vG.more{i:Nat}(h:vG V D Q R (i+1))(a:D<=2*R+V/2^i%2):vG V D (2*Q+1) (2*R+V/2^i%2-D) i:=by
 have b:=h.dig;have c:=h.lt;refine⟨?_,om⟩
 have d:(2*Q+1)*D=2*(Q*D)+D:=by grind
 omega
def vG.less{i:Nat}(h:vG V D Q R (i+1))(a:2*R+V/2^i%2<D):vG V D (2*Q) (2*R+V/2^i%2) i:=by
 have b:=h.dig;refine⟨?_,a⟩;have c:(2*Q)*D=2*(Q*D):=by grind
 omega
def vG.done(h:vG V D Q R 0):Q=V/D/\R=V%D:=by
 have a:=h.eq;have b:=h.lt;simp only[Nat.pow_zero,Nat.div_one]at a;rw[a];refine⟨?_,?_⟩
 .rw[kE,Nat.add_mul_div_right _ _ om,ed b,aJ]
 .rw[kE,Nat.add_mul_mod_self_right,dR b]
def QX{a s:Nat}(h:2^(s+1)∣a):a ||| 2^s=a+2^s:=by
 obtain⟨c,rfl⟩:=h;have d:=kD (i:=s+1) (b:=2^s) (jL om om) c;rw[tC,aA c]at d;exact d.symm
def IM{ps:List Nat}(f:mV ps){Q i:Nat}(q:i<32*ps.length)(g:bC ps=Q*2^(i+1)) :
  ps.getD (i/32) 0 ||| 2^(i%32)=ps.getD (i/32) 0+2^(i%32)/\ps.getD (i/32) 0+2^(i%32)<4294967296/\bC (ps.set (i/32) (ps.getD (i/32) 0+2^(i%32)))=(2*Q+1)*2^i:=by
 have k:=Fm f (i/32) om;have l:i+1=32*(i/32)+(i%32+1):=om
 have m:bC ps/4294967296^(i/32)=Q*2^(i%32+1):=by
  rw[g,zJ]
  conv=>lhs;rw[l,fz,<-bI,aA Q,bI]
  rw[Nat.mul_div_cancel_left _ (iL om)]
 have h:2^(i%32+1)∣4294967296:=⟨2^(31-i%32),by rw[<-fz,(om:i%32+1+(31-i%32)=32)]⟩
 have j:2^(i%32+1)∣ps.getD (i/32) 0:=by
  rw[k,m];exact(Nat.dvd_mod_iff h).2 (Nat.dvd_mul_left _ _)
 have a:=f.getD (i/32);refine⟨QX j,?_,?_⟩
 .obtain⟨c,n⟩:=j;obtain⟨d,o⟩:=h;rw[n]at a ⊢;rw[o]at a ⊢;have b:c<d:=Nat.lt_of_mul_lt_mul_left a;have e:2^(i%32+1)*(c+1)<=2^(i%32+1)*d:=aM _ b;have p:0<2^(i%32):=iL om;have r:2^(i%32+1)=2*2^(i%32):=by rw[bV];omega
  rw[bW,su]at e;omega
 .have b:=CU ps (i/32) (ps.getD (i/32) 0+2^(i%32)) om;have e:2^(i%32)*4294967296^(i/32)=2^i:=by
   rw[zJ,<-fz];congr 1;omega
  rw[dJ,e,g,bV]at b;have p:(2*Q+1)*2^i=Q*(2^i*2)+2^i:=by grind
  omega

def PH(w:World)(v:Nat)(e:Ending)(w':World):Prop :=
 ∃(A:Option Addr) (n c:Nat) (zs:List Nat),e=.returned (.slice A n c)/\n<=c/\cE w' w'.heap.size A n zs/\oV zs/\bC zs=v/\Below w.heap.size w w'/\∀ad,A=some ad->w.heap.size<=ad.block
def I3{e:TypeId}{cs:List Value}(h:w'.ownsRow B e size (.slice A m c) m cs):∀ad,A=some ad->B<=ad.block:=by
 intro ad b;subst b;rcases h.2 with⟨a,_⟩|⟨g,cap,cur,d,a,_⟩
 .cases a
 .cases d;exact a
def zm(A:Option Addr)(n c B:Nat)(xs:List Nat)(w:World)(hn:n<=c)(hm:n<=2147483648)(hB:B<=w.heap.size)(h:cE w B A n xs) :
  Calls ak 71 #[.slice A n c] w (PH w (bC xs)):=by
 have HH:=ab h;clear h
 go_enter func71,ntmps71
 go_wp2
 go_loop [3] (fun s=>∃k:Nat,k<=n/\s=.int .i64 k/\Hid (∀j,k<=j->xs.getD j 0=0)) (fun s=>(intOf s).toNat)
 case atStart=>exact⟨n,ag _,rfl,ab (fun j hj=>by simp[dh,dV (show xs.length<=j by rw[HH.out.1];exact hj)])⟩
 case round =>
  obtain⟨k,hk,rfl,hz⟩:=hrel;by_cases h0:k=0
  .subst h0
   go_wp2_with (at_builtin;refine jE _ rfl _ _ 48 rfl 136 Tryz.t136 (.int .u32 0) 1 4 fK G7 Gp GG Hu rfl om rfl A 0 c [] rfl rfl (fun h=>absurd h om) sm sm sm ?_)
   intro A' c' w1 hown hgrow;have HN:=ab (I3 hown);obtain⟨hU,hc⟩:=cE.ofOwn (xs:=[]) hown (by simp[mV])
   have HU:=ab hU;have HB:=ab (kt hgrow (B:=w.heap.size) (ag _) (by intro g h;cases h))
   have HV:=ab (nh 0 xs hz.out);clear hU hown hgrow hz;go_wp2;go_ret;exact⟨_,_,_,_,rfl,hc,HU.out,zP,by rw[HV.out];rfl,HB.out,HN.out⟩
  .obtain⟨m,rfl⟩:∃m,k=m+1:=⟨k-1,om⟩
   obtain⟨ad,x,rfl,_,hx',_,hx⟩:=HH.out.at_ (k:=m) om;have HX:=ab hx';clear hx';by_cases hx0:x=0
   .subst hx0;go_wp2;refine⟨⟨m,om,by go_num,ab fun j hj=>?_⟩,by simp[intOf]⟩
    rcases aB m j with h|h
    .exact hz.out j h
    .obtain rfl:j=m:=om
     exact HX.out
   .have hb1:((x:Int)==0)=false:=by simp;omega
    have HT:=HH.out.take hk;have HTT:=ab HT;clear HT
    go_wp2_with (at_builtin;refine jE _ rfl _ _ 48 rfl 136 Tryz.t136 (.int .u32 0) 1 4 fK G7 Gp GG Hu rfl om rfl (some ad) (m+1) c (jR (xs.take (m+1))) rfl (by simp[jR];rw[HH.out.1];omega) (HTT.out.src) (t8 _) (by simp[maxLen];omega) om ?_)
    intro A' c' w1 hown hgrow;have HN:=ab (I3 hown);obtain⟨hU,hc⟩:=cE.ofOwn hown (HH.out.2.1.take _);have HU:=ab hU;have HB:=ab (kt hgrow (B:=w.heap.size) (ag _) (by intro g h;cases h))
    have HV:=ab (nh (m+1) xs hz.out);have HTP:Hid (oV (xs.take (m+1))):=ab (tH (fun _=>by rw[fA,HX.out];exact hx0) (by rw[HH.out.1];exact hk))
    clear hU hown hgrow hz;go_wp2;go_ret;exact⟨_,_,_,_,rfl,hc,HU.out,HTP.out,HV.out.symm,HB.out,HN.out⟩

def yG{a:Int}(b:-9223372036854775808<=a)(c:a<=9223372036854775807):IntKind.i64.wrap a=a:=IntWalk.i64_in a ⟨b,c⟩
theorem yY:∀n,bC (cn n 0)=0
 | 0=>rfl
 | n+1=>by simp[kc,bC,yY n]
def zh{g i:Nat}(h:cE w w.heap.size A n xs)(a:∀ad,A=some ad->ad.block≠g):cE (w.setCell ⟨g,i,none⟩ u) (w.setCell ⟨g,i,none⟩ u).heap.size A n xs:=by
 refine⟨h.1,h.2.1,fun b=>?_⟩;obtain⟨ad,e,c,d⟩:=h.2.2 b;refine⟨ad,e,by simpa using c,fun j f=>?_⟩
 rw[<-d j f];exact BC (w:=w) (by rw[nA];exact NL w ⟨g,i,none⟩ u ad.block (a ad e))
def yW{z:Nat}(h:z<4294967296):(z:Int)%4294967296=(z:Int):=dz om om
def O5(s:Bool)(A:Option Addr)(k c:Nat)(w:World):Sem.run ak (Instr.field 50 (.agg #[.bool s,.slice A k c]) 1) w=.ok (.slice A k c) w:=by
 kernel_rfl
def DF(A B:Option Addr)(n m c d L:Nat)(xs ys:List Nat)(w:World)(hn:n<=2)(hm:m<=2)(hx:cE w L A n xs)(hy:cE w L B m ys)
  (h0:0<bC ys):Calls ak 189 #[.slice A n c,.slice B m d] w (m9 w (bC xs/bC ys) (bC xs%bC ys)):=by
 have hx4:bC xs<18446744073709551616:=by
  have h:=jr hx.2.1;rw[hx.1]at h;have h2:(4294967296:Nat)^n<=4294967296^2:=cp om hn;omega
 have hy4:bC ys<18446744073709551616:=by
  have h:=jr hy.2.1;rw[hy.1]at h;have h2:(4294967296:Nat)^m<=4294967296^2:=cp om hm;omega
 have HX:=ab hx;clear hx;have HY:=ab hy;clear hy;generalize hvx:bC xs=x at hx4 h0 ⊢;generalize hvy:bC ys=y at hy4 h0 ⊢;have HVX:=ab hvx;clear hvx;have HVY:=ab hvy;clear hvy;have hn2i:(n:Int)<=2:=om
 have hm2i:(m:Int)<=2:=om
 have hy0:(y:Int)≠0:=om
 have hyn:y≠0:=om
 have hqle:x/y<=x:=gG x y;have hrlt:x%y<y:=di x h0;have Hq:Hid (IntKind.u64.wrap ((x:Int)/(y:Int))=((x/y:Nat):Int)):=ab (by rw[cf,<-lL];exact dz (cM _) om)
 have Hr:Hid ((x:Int)%(y:Int)=((x%y:Nat):Int)):=ab sm
 have Hr2:Hid ((x:Int).tmod (y:Int)=((x%y:Nat):Int)):=ab (by rw[aO (cM _)];simp)
 generalize x/y=q at hqle Hq ⊢;generalize x%y=r at hrlt Hr Hr2 ⊢;have hfld:=O5
 go_enter func189,Tx
 go_wp2_with fail
 refine(yD A n c L xs _ om HX.out).mono ?_;rintro e w' ⟨rfl,rfl⟩;rw[HVX.out]
 go_wp2_with fail
 refine(yD B m d L ys _ om HY.out).mono ?_;rintro e w' ⟨rfl,rfl⟩;rw[HVY.out];go_wp2;have HQ:=ab (bG w.heap.size w).drew
 go_region_held3 (fun w'=>Below w.heap.size w w')
  (first|assumption|exact HQ.out)
  (first
   | (go_at_call 69;rw[Hq.out];refine(pV false q w.drew om).mono ?_;rintro e w2 ⟨v,rfl,hI,hb1⟩;obtain⟨s1,A1,k1,c1,qs,rfl,hk1,hU1,hT1,hv1⟩:=hI;have HU1:=ab hU1;clear hU1;have HT1:=ab hT1;clear hT1;have HV1:=ab hv1;clear hv1;have hB2:Below w.heap.size w w2:=HQ.out.trans (hb1.mono HQ.out.size);clear hb1)
   | (go_at_call 69;(first|rw[Hr.out]|rw[Hr2.out]);refine(pV false r w2 om).mono ?_;rintro e w3 ⟨v,rfl,hI,hb2⟩;obtain⟨s2,A2,k2,c2,rs,rfl,hk2,hU2,hT2,hv2⟩:=hI;have HU2:=ab hU2;clear hU2;have HT2:=ab hT2;clear hT2;have HV2:=ab hv2;clear hv2;have hB3:Below w.heap.size w w3:=hB2.trans (hb2.mono hB2.size);have HB3:=ab hb2;clear hb2))
 all_goals (try go_wp2)
 all_goals go_ret2
 all_goals exact⟨A1,k1,c1,qs,A2,k2,c2,rs,rfl,hk1,hk2,(HU1.out.below HB3.out (ag _)).more HB3.out.size,HU2.out,HT1.out,HT2.out,by have:=nv Int.natAbs HV1.out;rw[fG,fG]at this;omega,by have:=nv Int.natAbs HV2.out;rw[fG,fG]at this;omega,hB3⟩
def Hh(A B:Option Addr)(n m c d L:Nat)(xs ys:List Nat)(w:World)(hn:n<=16777216)(hm:m<=16777216)(hL:L<=w.heap.size)(hx:cE w L A n xs)(hy:cE w L B m ys)(ty:oV ys)
  (h0:0<bC ys) (hbig:2<n):Calls ak 189 #[.slice A n c,.slice B m d] w (m9 w (bC xs/bC ys) (bC xs%bC ys)):=by
 have HX:=ab hx;clear hx;have HY:=ab hy;clear hy;have HTY:=ab ty;clear ty;have H0:=ab h0;clear h0;have hmk:=Dr n om;have hbi:¬(n:Int)<=2:=om
 have hwr:IntKind.i64.wrap (32*(n:Int))=32*(n:Int):=yG om om
 go_enter func189,Tx
 go_wp2
 go_loopw [5,8] (fun rv iv wr=>∃(i Q R:Nat) (ps rs:List Nat) (A2:Option Addr) (k2 c2:Nat),i<=32*n/\iv=.int .i64 ((i:Int)-1)/\rv=.slice A2 k2 c2/\k2<=c2/\k2<=m/\Hid (iA w wr ps)/\Hid (mV ps/\ps.length=n/\bC ps=Q*2^i)/\Hid (cE wr wr.heap.size A2 k2 rs/\oV rs/\bC rs=R)/\Hid (vG (bC xs) (bC ys) Q R i)) (fun _ iv _=>(intOf iv+1).toNat)
 case atStart =>
  refine⟨32*n,0,0,cn n 0,[],none,0,0,om,?_,rfl,om,om,ab (iA.start w n),ab ⟨?_,sm,?_⟩,ab ⟨Q6 _ _ _,zP,rfl⟩,ab ⟨?_,H0.out⟩⟩
  .go_num
  .intro x hx;rw[iH hx];omega
  .rw[yY];omega
  .rw[ed]
   .omega
   .have h:=jr HX.out.2.1;rw[HX.out.1,zJ]at h;exact h
 case round =>
  obtain⟨i,Q,R,ps,rs,A2,k2,c2,hi,rfl,rfl,hk2,hkm,HF,HP,HR,HD⟩:=hrel
  cases i with
  | zero =>
   have e0:((0:Nat):Int)-1=-1:=om
   rw[e0]
   go_wp2_with fail
   have hU:=cE.ofBlk HF.out.2 HP.out.1 HF.out.2.lt rfl;rw[HP.out.2.1]at hU;refine(gn _ _ _ _ _ _ (ag _) om (ag _) hU).mono ?_;rintro e w2 ⟨A3,k3,c3,zs,rfl,hk3,hU3,hT3,hv3,hb3⟩;have HU3:=ab hU3;clear hU3;have HT3:=ab hT3;clear hT3;have HV3:=ab hv3;clear hv3;have HB3:=ab hb3;clear hb3;clear hU;go_wp2;go_ret2;obtain⟨r1,r2,r3⟩:=HR.out;obtain⟨d1,d2⟩:=HD.out.done;exact⟨A3,k3,c3,zs,A2,k2,c2,rs,rfl,hk3,hk2,HU3.out,(r1.below HB3.out (ag _)).more HB3.out.size,HT3.out,r2,by rw[HV3.out,HP.out.2.2,d1];simp,by rw[r3,d2],HF.out.1.trans (HB3.out.mono HF.out.1.size)⟩
  | succ i =>
   have e0:((i+1:Nat):Int)-1=(i:Int):=om
   rw[e0];obtain⟨ad,x,rfl,hab,hxx,hx4,hcx⟩:=(HX.out.below HF.out.1 hL).at_ (k:=i/32) om;have HXX:=ab hxx;clear hxx;have hi0:(0:Int)<=i:=om
   have hi32:(i:Int)/32<n:=om
   have hi33:(0:Int)<=(i:Int)/32:=om
   have hi34:((i:Int)/32).toNat=i/32:=om
   have hbit:bits .and .u32 ((x:Int)/2^(i%32)) 1=((bC xs/2^i%2:Nat):Int):=by
    have h:=u32_and_nat (x/2^(i%32)) 1 (dG (gG _ _) hx4) om;rw[SQ,<-HXX.out,Jq HX.out.2.1 i (by rw[HX.out.1];omega)]at h
    rw[<-h,<-HXX.out];simp
   have hb1:bC xs/2^i%2<=1:=om
   generalize hbb:bC xs/2^i%2=b at hbit hb1;have HBB:=ab hbb;clear hbb;have HBIT:=ab hbit;clear hbit
   go_wp2_with fail
   rw[HBIT.out];refine(Ak A2 k2 c2 wr.heap.size b rs wr om (ag _) HR.out.1 hb1).mono ?_;rintro e w1 ⟨A3,k3,c3,zs3,rfl,hc3,hk3,hU3,hv3,hb3⟩;have HU3:=ab hU3;clear hU3;have HV3:=ab hv3;clear hv3;have HB3:=ab (HF.out.1.trans (hb3.mono HF.out.1.size));have HF3:Hid (iA w w1 ps):=ab ⟨HB3.out,HF.out.2.below hb3 HF.out.2.lt⟩;clear hb3
   go_wp2_with fail
   refine(gn A3 k3 c3 _ zs3 w1 hc3 om (ag _) HU3.out).mono ?_;rintro e w2 ⟨A4,k4,c4,zs4,rfl,hc4,hU4,hT4,hv4,hb4⟩;have HF4:Hid (iA w w2 ps):=ab ⟨HB3.out.trans (hb4.mono HB3.out.size),HF3.out.2.below hb4 HF3.out.2.lt⟩;have hk4:k4<=k2+1:=by
    rw[aD hU4 hT4,hv4];exact bO (jQ.2 (by have:=jr HU3.out.2.1;rw[HU3.out.1]at this;exact this)) hk3
   have HU4:=ab hU4;clear hU4;have HT4:=ab hT4;clear hT4;have HV4:Hid (bC zs4=2*R+b):=ab (by rw[hv4,HV3.out,HR.out.2.2]);clear hv4 hb4 HU3 HV3 HB3 HF3 HBIT
   have hY2:cE w2 w2.heap.size B m ys:=(HY.out.below HF4.out.1 hL).more (by have:=HF4.out.1.size;omega)
   have HY2:=ab hY2;clear hY2;rcases aB (2*R+b) (bC ys)with hlt|hge
   .have hcm:lh (bC zs4) (bC ys)=-1:=by rw[HV4.out];exact lC hlt
    have HCM:=ab hcm;clear hcm;have HD2:=ab (HD.out.less (by rw[HBB.out];exact hlt))
    have hk5:k4<=m:=by
     rw[aD HU4.out HT4.out,aD HY.out HTY.out,HV4.out];exact fJ (dq hlt)
    clear hlt
    go_wp2_with fail
    refine(lY A4 B k4 m c4 d w2.heap.size zs4 ys w2 om om HU4.out HY2.out HT4.out HTY.out).mono ?_;rintro e w5 ⟨rfl,hst⟩;rw[HCM.out];obtain⟨q,rfl⟩:=hst;go_wp2
    go_roundw
    case rel=>exact⟨i,2*Q,2*R+b,ps,zs4,A4,k4,c4,om,by go_num,rfl,hc4,hk5,ab ⟨HF4.out.1.trans ((dT.refl w2).more q |>.below _),HF4.out.2⟩,ab ⟨HP.out.1,HP.out.2.1,by rw[HP.out.2.2,bV];grind⟩,ab ⟨HU4.out,HT4.out,HV4.out⟩,ab (by have:=HD2.out;rw[HBB.out]at this;exact this)⟩
    case measure=>simp[intOf]
   .have hcm:0<=lh (bC zs4) (bC ys):=by
     rw[HV4.out];rcases aB (bC ys) (2*R+b)with h|h
     .rw[kC h];omega
     .rw[lD om];omega
    have hmk4:m<=k4:=by
     rw[aD HU4.out HT4.out,aD HY.out HTY.out,HV4.out];exact fJ hge
    have HD2:Hid (vG (bC xs) (bC ys) (2*Q+1) (2*R+b-bC ys) i):=ab (by have:=HD.out.more (by rw[HBB.out];exact hge);rw[HBB.out]at this;exact this)
    have HGE:=ab hge;clear hge;generalize hcg:lh (bC zs4) (bC ys)=cm at hcm;have HCM:=ab hcg;clear hcg
    go_wp2_with fail
    refine(lY A4 B k4 m c4 d w2.heap.size zs4 ys w2 om om HU4.out HY2.out HT4.out HTY.out).mono ?_;rintro e w5 ⟨rfl,hst⟩;rw[HCM.out];obtain⟨q,rfl⟩:=hst;have HUq:Hid (cE (w2.drewN q) (w2.drewN q).heap.size A4 k4 zs4):=ab HU4.out;have HYq:Hid (cE (w2.drewN q) (w2.drewN q).heap.size B m ys):=ab HY2.out;have HFq:Hid (iA w (w2.drewN q) ps):=ab ⟨HF4.out.1.trans ((dT.refl w2).more q |>.below _),HF4.out.2⟩
    clear HF4 HY2 HF HR;generalize w2.drewN q=wq at HUq HYq HFq ⊢
    go_wp2_with fail
    refine(lB A4 B k4 m c4 d wq.heap.size zs4 ys wq hmk4 om (ag _) HUq.out HYq.out (by rw[HV4.out];exact HGE.out)).mono ?_
    rintro e w6 ⟨A6,k6,c6,zs6,rfl,hc6,hk6,hU6,hv6,hb6⟩;have HF6:Hid (iA w w6 ps):=ab ⟨HFq.out.1.trans (hb6.mono HFq.out.1.size),HFq.out.2.below hb6 HFq.out.2.lt⟩;have HU6:=ab hU6;clear hU6;have HV6:=ab hv6;clear hv6 hb6 HFq HYq HUq
    go_wp2_with fail
    refine(zm A6 k6 c6 _ zs6 w6 hc6 om (ag _) HU6.out).mono ?_;rintro e w7 ⟨A7,k7,c7,zs7,rfl,hc7,hU7,hT7,hv7,hb7,hN7⟩;have HN7:Hid (∀ad,A7=some ad->ad.block≠w.heap.size):=ab (fun ad h=>by have h1:=hN7 ad h;have h2:=HF6.out.2.lt;omega)
    clear hN7;have HF7:Hid (iA w w7 ps):=ab ⟨HF6.out.1.trans (hb7.mono HF6.out.1.size),HF6.out.2.below hb7 HF6.out.2.lt⟩;have HV7:Hid (bC zs7=2*R+b-bC ys):=ab (by rw[hv7,HV6.out,HV4.out])
    have hk7:k7<=m:=by
     rw[aD hU7 hT7,aD HY.out HTY.out,HV7.out];exact fJ (dq HD2.out.lt)
    have HU7:=ab hU7;clear hU7;have HT7:=ab hT7;clear hT7 hv7 hb7 HF6 HU6 HV6;obtain⟨s1,s2,s3⟩:=IM HP.out.1 (Q:=Q) (i:=i) (by rw[HP.out.2.1];omega) HP.out.2.2
    obtain⟨hcp,hfp⟩:=HF7.out.at_ (i/32) (by rw[HP.out.2.1];omega)
    have hp4:=HP.out.1.getD (i/32);generalize hpp:ps.getD (i/32) 0=p at hcp s1 s2 s3 hp4;clear hpp;have hor:bits .or .u32 (p:Int) (IntKind.u32.wrap (2^((i:Int)%32).toNat))=((p+2^(i%32):Nat):Int):=by
     have h1:((i:Int)%32).toNat=i%32:=om
     have h2:2^(i%32)<4294967296:=by
      have:2^(i%32)<2^32:=jL om om;simpa using this
     have h3:((2:Int)^(i%32))=((2^(i%32):Nat):Int):=by simp
     have h4:IntKind.u32.wrap ((2^(i%32):Nat):Int)=((2^(i%32):Nat):Int):=by rw[K6];exact yW h2
     rw[h1,h3,h4,Tk _ _ hp4 h2,s1]
    have HOR:=ab hor;clear hor;have HS3:=ab s3;clear s3 s1;have HS2:=ab s2;clear s2;have hU7d:cE w7.drew w7.drew.heap.size A7 k7 zs7:=HU7.out;have HU7d:=ab hU7d;clear hU7d;have HF7d:Hid (iA w w7.drew ps):=ab ⟨HF7.out.1.drew,HF7.out.2⟩;go_wp2;have ht1:(i:Int).tdiv 32=(i:Int)/32:=fD hi0;have ht2:(i:Int).tmod 32=(i:Int)%32:=aO hi0;have ht3:IntKind.i64.wrap ((i:Int)/32)=(i:Int)/32:=yG om om;have ht4:(0:Int)<=(i:Int)%32:=om
    go_still_tail 9,kr
    rw[HOR.out];change wpList _ _ _ _ _ w7.drew;clear ht1 ht2 ht3 ht4 HOR HU7 HF7;have hcp':w7.drew.cell? ⟨w.heap.size,i/32,none⟩=some (.int .u32 p):=hcp;have hfp':w7.drew.frozen? ⟨w.heap.size,i/32,none⟩=false:=hfp;clear hcp hfp;generalize w7.drew=w8 at hcp' hfp' HU7d HF7d ⊢;go_wp2
    go_roundw
    case rel =>
     have hF:=HF7d.out.put (i/32) (p+2^(i%32));refine⟨i,2*Q+1,2*R+b-bC ys,ps.set (i/32) (p+2^(i%32)),zs7,A7,k7,c7,om,by go_num,rfl,hc7,hk7,ab hF,ab ⟨HP.out.1.set _ HS2.out,by rw[To];exact HP.out.2.1,HS3.out⟩,ab ⟨?_,HT7.out,HV7.out⟩,HD2⟩
     exact zh HU7d.out HN7.out
    case measure=>simp[intOf]

def Hg(A B:Option Addr)(n m c d L:Nat)(xs ys:List Nat)(w:World)(hn:n<=16777216)(hm:m<=16777216)(hL:L<=w.heap.size)(hx:cE w L A n xs)(hy:cE w L B m ys)(ty:oV ys)
  (h0:0<bC ys) (hb1:n<=2) (hb2:2<m):Calls ak 189 #[.slice A n c,.slice B m d] w (m9 w (bC xs/bC ys) (bC xs%bC ys)):=by
 have HX:=ab hx;clear hx;have HY:=ab hy;clear hy;have HTY:=ab ty;clear ty;have H0:=ab h0;clear h0;have hmk:=Dr n om;have hbi:(n:Int)<=2:=om
 have hbj:¬(m:Int)<=2:=om
 have hwr:IntKind.i64.wrap (32*(n:Int))=32*(n:Int):=yG om om
 go_enter func189,Tx
 go_wp2
 go_loopw [5,8] (fun rv iv wr=>∃(i Q R:Nat) (ps rs:List Nat) (A2:Option Addr) (k2 c2:Nat),i<=32*n/\iv=.int .i64 ((i:Int)-1)/\rv=.slice A2 k2 c2/\k2<=c2/\k2<=m/\Hid (iA w wr ps)/\Hid (mV ps/\ps.length=n/\bC ps=Q*2^i)/\Hid (cE wr wr.heap.size A2 k2 rs/\oV rs/\bC rs=R)/\Hid (vG (bC xs) (bC ys) Q R i)) (fun _ iv _=>(intOf iv+1).toNat)
 case atStart =>
  refine⟨32*n,0,0,cn n 0,[],none,0,0,om,?_,rfl,om,om,ab (iA.start w n),ab ⟨?_,sm,?_⟩,ab ⟨Q6 _ _ _,zP,rfl⟩,ab ⟨?_,H0.out⟩⟩
  .go_num
  .intro x hx;rw[iH hx];omega
  .rw[yY];omega
  .rw[ed]
   .omega
   .have h:=jr HX.out.2.1;rw[HX.out.1,zJ]at h;exact h
 case round =>
  obtain⟨i,Q,R,ps,rs,A2,k2,c2,hi,rfl,rfl,hk2,hkm,HF,HP,HR,HD⟩:=hrel
  cases i with
  | zero =>
   have e0:((0:Nat):Int)-1=-1:=om
   rw[e0]
   go_wp2_with fail
   have hU:=cE.ofBlk HF.out.2 HP.out.1 HF.out.2.lt rfl;rw[HP.out.2.1]at hU;refine(gn _ _ _ _ _ _ (ag _) om (ag _) hU).mono ?_;rintro e w2 ⟨A3,k3,c3,zs,rfl,hk3,hU3,hT3,hv3,hb3⟩;have HU3:=ab hU3;clear hU3;have HT3:=ab hT3;clear hT3;have HV3:=ab hv3;clear hv3;have HB3:=ab hb3;clear hb3;clear hU;go_wp2;go_ret2;obtain⟨r1,r2,r3⟩:=HR.out;obtain⟨d1,d2⟩:=HD.out.done;exact⟨A3,k3,c3,zs,A2,k2,c2,rs,rfl,hk3,hk2,HU3.out,(r1.below HB3.out (ag _)).more HB3.out.size,HT3.out,r2,by rw[HV3.out,HP.out.2.2,d1];simp,by rw[r3,d2],HF.out.1.trans (HB3.out.mono HF.out.1.size)⟩
  | succ i =>
   have e0:((i+1:Nat):Int)-1=(i:Int):=om
   rw[e0];obtain⟨ad,x,rfl,hab,hxx,hx4,hcx⟩:=(HX.out.below HF.out.1 hL).at_ (k:=i/32) om;have HXX:=ab hxx;clear hxx;have hi0:(0:Int)<=i:=om
   have hi32:(i:Int)/32<n:=om
   have hi33:(0:Int)<=(i:Int)/32:=om
   have hi34:((i:Int)/32).toNat=i/32:=om
   have hbit:bits .and .u32 ((x:Int)/2^(i%32)) 1=((bC xs/2^i%2:Nat):Int):=by
    have h:=u32_and_nat (x/2^(i%32)) 1 (dG (gG _ _) hx4) om;rw[SQ,<-HXX.out,Jq HX.out.2.1 i (by rw[HX.out.1];omega)]at h
    rw[<-h,<-HXX.out];simp
   have hb1:bC xs/2^i%2<=1:=om
   generalize hbb:bC xs/2^i%2=b at hbit hb1;have HBB:=ab hbb;clear hbb;have HBIT:=ab hbit;clear hbit
   go_wp2_with fail
   rw[HBIT.out];refine(Ak A2 k2 c2 wr.heap.size b rs wr om (ag _) HR.out.1 hb1).mono ?_;rintro e w1 ⟨A3,k3,c3,zs3,rfl,hc3,hk3,hU3,hv3,hb3⟩;have HU3:=ab hU3;clear hU3;have HV3:=ab hv3;clear hv3;have HB3:=ab (HF.out.1.trans (hb3.mono HF.out.1.size));have HF3:Hid (iA w w1 ps):=ab ⟨HB3.out,HF.out.2.below hb3 HF.out.2.lt⟩;clear hb3
   go_wp2_with fail
   refine(gn A3 k3 c3 _ zs3 w1 hc3 om (ag _) HU3.out).mono ?_;rintro e w2 ⟨A4,k4,c4,zs4,rfl,hc4,hU4,hT4,hv4,hb4⟩;have HF4:Hid (iA w w2 ps):=ab ⟨HB3.out.trans (hb4.mono HB3.out.size),HF3.out.2.below hb4 HF3.out.2.lt⟩;have hk4:k4<=k2+1:=by
    rw[aD hU4 hT4,hv4];exact bO (jQ.2 (by have:=jr HU3.out.2.1;rw[HU3.out.1]at this;exact this)) hk3
   have HU4:=ab hU4;clear hU4;have HT4:=ab hT4;clear hT4;have HV4:Hid (bC zs4=2*R+b):=ab (by rw[hv4,HV3.out,HR.out.2.2]);clear hv4 hb4 HU3 HV3 HB3 HF3 HBIT
   have hY2:cE w2 w2.heap.size B m ys:=(HY.out.below HF4.out.1 hL).more (by have:=HF4.out.1.size;omega)
   have HY2:=ab hY2;clear hY2;rcases aB (2*R+b) (bC ys)with hlt|hge
   .have hcm:lh (bC zs4) (bC ys)=-1:=by rw[HV4.out];exact lC hlt
    have HCM:=ab hcm;clear hcm;have HD2:=ab (HD.out.less (by rw[HBB.out];exact hlt))
    have hk5:k4<=m:=by
     rw[aD HU4.out HT4.out,aD HY.out HTY.out,HV4.out];exact fJ (dq hlt)
    clear hlt
    go_wp2_with fail
    refine(lY A4 B k4 m c4 d w2.heap.size zs4 ys w2 om om HU4.out HY2.out HT4.out HTY.out).mono ?_;rintro e w5 ⟨rfl,hst⟩;rw[HCM.out];obtain⟨q,rfl⟩:=hst;go_wp2
    go_roundw
    case rel=>exact⟨i,2*Q,2*R+b,ps,zs4,A4,k4,c4,om,by go_num,rfl,hc4,hk5,ab ⟨HF4.out.1.trans ((dT.refl w2).more q |>.below _),HF4.out.2⟩,ab ⟨HP.out.1,HP.out.2.1,by rw[HP.out.2.2,bV];grind⟩,ab ⟨HU4.out,HT4.out,HV4.out⟩,ab (by have:=HD2.out;rw[HBB.out]at this;exact this)⟩
    case measure=>simp[intOf]
   .have hcm:0<=lh (bC zs4) (bC ys):=by
     rw[HV4.out];rcases aB (bC ys) (2*R+b)with h|h
     .rw[kC h];omega
     .rw[lD om];omega
    have hmk4:m<=k4:=by
     rw[aD HU4.out HT4.out,aD HY.out HTY.out,HV4.out];exact fJ hge
    have HD2:Hid (vG (bC xs) (bC ys) (2*Q+1) (2*R+b-bC ys) i):=ab (by have:=HD.out.more (by rw[HBB.out];exact hge);rw[HBB.out]at this;exact this)
    have HGE:=ab hge;clear hge;generalize hcg:lh (bC zs4) (bC ys)=cm at hcm;have HCM:=ab hcg;clear hcg
    go_wp2_with fail
    refine(lY A4 B k4 m c4 d w2.heap.size zs4 ys w2 om om HU4.out HY2.out HT4.out HTY.out).mono ?_;rintro e w5 ⟨rfl,hst⟩;rw[HCM.out];obtain⟨q,rfl⟩:=hst;have HUq:Hid (cE (w2.drewN q) (w2.drewN q).heap.size A4 k4 zs4):=ab HU4.out;have HYq:Hid (cE (w2.drewN q) (w2.drewN q).heap.size B m ys):=ab HY2.out;have HFq:Hid (iA w (w2.drewN q) ps):=ab ⟨HF4.out.1.trans ((dT.refl w2).more q |>.below _),HF4.out.2⟩
    clear HF4 HY2 HF HR;generalize w2.drewN q=wq at HUq HYq HFq ⊢
    go_wp2_with fail
    refine(lB A4 B k4 m c4 d wq.heap.size zs4 ys wq hmk4 om (ag _) HUq.out HYq.out (by rw[HV4.out];exact HGE.out)).mono ?_
    rintro e w6 ⟨A6,k6,c6,zs6,rfl,hc6,hk6,hU6,hv6,hb6⟩;have HF6:Hid (iA w w6 ps):=ab ⟨HFq.out.1.trans (hb6.mono HFq.out.1.size),HFq.out.2.below hb6 HFq.out.2.lt⟩;have HU6:=ab hU6;clear hU6;have HV6:=ab hv6;clear hv6 hb6 HFq HYq HUq
    go_wp2_with fail
    refine(zm A6 k6 c6 _ zs6 w6 hc6 om (ag _) HU6.out).mono ?_;rintro e w7 ⟨A7,k7,c7,zs7,rfl,hc7,hU7,hT7,hv7,hb7,hN7⟩;have HN7:Hid (∀ad,A7=some ad->ad.block≠w.heap.size):=ab (fun ad h=>by have h1:=hN7 ad h;have h2:=HF6.out.2.lt;omega)
    clear hN7;have HF7:Hid (iA w w7 ps):=ab ⟨HF6.out.1.trans (hb7.mono HF6.out.1.size),HF6.out.2.below hb7 HF6.out.2.lt⟩;have HV7:Hid (bC zs7=2*R+b-bC ys):=ab (by rw[hv7,HV6.out,HV4.out])
    have hk7:k7<=m:=by
     rw[aD hU7 hT7,aD HY.out HTY.out,HV7.out];exact fJ (dq HD2.out.lt)
    have HU7:=ab hU7;clear hU7;have HT7:=ab hT7;clear hT7 hv7 hb7 HF6 HU6 HV6;obtain⟨s1,s2,s3⟩:=IM HP.out.1 (Q:=Q) (i:=i) (by rw[HP.out.2.1];omega) HP.out.2.2
    obtain⟨hcp,hfp⟩:=HF7.out.at_ (i/32) (by rw[HP.out.2.1];omega)
    have hp4:=HP.out.1.getD (i/32);generalize hpp:ps.getD (i/32) 0=p at hcp s1 s2 s3 hp4;clear hpp;have hor:bits .or .u32 (p:Int) (IntKind.u32.wrap (2^((i:Int)%32).toNat))=((p+2^(i%32):Nat):Int):=by
     have h1:((i:Int)%32).toNat=i%32:=om
     have h2:2^(i%32)<4294967296:=by
      have:2^(i%32)<2^32:=jL om om;simpa using this
     have h3:((2:Int)^(i%32))=((2^(i%32):Nat):Int):=by simp
     have h4:IntKind.u32.wrap ((2^(i%32):Nat):Int)=((2^(i%32):Nat):Int):=by rw[K6];exact yW h2
     rw[h1,h3,h4,Tk _ _ hp4 h2,s1]
    have HOR:=ab hor;clear hor;have HS3:=ab s3;clear s3 s1;have HS2:=ab s2;clear s2;have hU7d:cE w7.drew w7.drew.heap.size A7 k7 zs7:=HU7.out;have HU7d:=ab hU7d;clear hU7d;have HF7d:Hid (iA w w7.drew ps):=ab ⟨HF7.out.1.drew,HF7.out.2⟩;go_wp2;have ht1:(i:Int).tdiv 32=(i:Int)/32:=fD hi0;have ht2:(i:Int).tmod 32=(i:Int)%32:=aO hi0;have ht3:IntKind.i64.wrap ((i:Int)/32)=(i:Int)/32:=yG om om;have ht4:(0:Int)<=(i:Int)%32:=om
    go_still_tail 9,kr
    rw[HOR.out];change wpList _ _ _ _ _ w7.drew;clear ht1 ht2 ht3 ht4 HOR HU7 HF7;have hcp':w7.drew.cell? ⟨w.heap.size,i/32,none⟩=some (.int .u32 p):=hcp;have hfp':w7.drew.frozen? ⟨w.heap.size,i/32,none⟩=false:=hfp;clear hcp hfp;generalize w7.drew=w8 at hcp' hfp' HU7d HF7d ⊢;go_wp2
    go_roundw
    case rel =>
     have hF:=HF7d.out.put (i/32) (p+2^(i%32));refine⟨i,2*Q+1,2*R+b-bC ys,ps.set (i/32) (p+2^(i%32)),zs7,A7,k7,c7,om,by go_num,rfl,hc7,hk7,ab hF,ab ⟨HP.out.1.set _ HS2.out,by rw[To];exact HP.out.2.1,HS3.out⟩,ab ⟨?_,HT7.out,HV7.out⟩,HD2⟩
     exact zh HU7d.out HN7.out
    case measure=>simp[intOf]
def Hi(A B:Option Addr)(n m c d L:Nat)(xs ys:List Nat)(w:World)(f:n<=16777216)(g:m<=16777216)(h:L<=w.heap.size)(a:cE w L A n xs)(b:cE w L B m ys)(ty:oV ys)
  (e:0<bC ys):Calls ak 189 #[.slice A n c,.slice B m d] w (m9 w (bC xs/bC ys) (bC xs%bC ys)):=by
 by_cases i:n<=2
 .by_cases j:m<=2
  .exact DF A B n m c d L xs ys w i j a b e
  .exact Hg A B n m c d L xs ys w f g h a b ty e i om
 .exact Hh A B n m c d L xs ys w f g h a b ty e om

inductive AV where
 | int (k:IntKind) (n:Int)
 | bool (b:Bool)
 | big (z:Int)
 | nil
 | sl (es b off len:Nat)
 | ptr (es b i:Nat)
 | lst (es n:Nat) (g:Nat->AV)
 | pat (es:Nat) (x:AV)
 | tup (l:List AV)
 | agg (l:List AV)
 | fn (f:Nat) (l:List AV)
 | mag (n:Nat)
 | fp (b i f:Nat)
 | bset (p:Bool->Prop)
 | any
 | nfn
 | mfn (f:Nat) (l:List AV)
variable{s x y:AV}{K:AV->Prop}{ps:List (Nat×AV)}{args:List AV}{g h:Nat->AV}
structure eo where
 ty:TypeId
 es:Nat
 n:Nat
 g:Nat->AV
variable{X:eo}
abbrev St:=Nat->Option eo
variable{post post':AV->St->Prop}{S S':St}
def St.dom(S:St)(b:Nat):Prop:=S b≠none
def St.none:St:=fun _=>ae
def St.upd(S:St)(b:Nat)(x:eo):St:=fun k=>if k=b then some x else S k
def one:Value->Prop
 | .agg _=>False
 | .tuple _=>False
 | _=>True
def lO:Value->Prop
 | .int .u32 _=>False
 | _=>True
def reads(cs:Array Value)(off:Nat):Nat->Value->Prop
 | 1,u=>cs[off]? = some u/\one u
 | 2,u=>∃x y,u=.agg #[x,y]/\one x/\one y/\cs[off]? = some x/\cs[off+1]? = some y
 | _,_=>False
def wb(w:World)(b off es:Nat)(u:Value):Prop:=∃cs ty fr,w.heap[b]? = some (.cells cs ty fr)/\reads cs off es u
mutual
def bH(w:World)(M:Nat->Prop):AV->Value->Prop
 | .int k n,v=>v=.int k n
 | .bool b,v=>v=.bool b
 | .big z,v=>ew w w.heap.size v z
 | .nil,v=>v=.slice none 0 0
 | .sl es b off len,v=>∃cap cs ty fr,v=.slice (some ⟨b,es*off,none⟩) len cap/\len<=cap/\w.heap[b]? = some (.cells cs ty fr)/\es*(off+cap)<=cs.size
 | .ptr es b i,v=>v=.pointer (some ⟨b,es*i,none⟩)
 | .lst es n g,v=>∃A c,v=.slice A n c/\n<=c/\(0<n->∃b off,A=some ⟨b,off,none⟩/\b<w.heap.size/\¬M b/\∀j,j<n->∃u,wb w b (off+es*j) es u/\bH w M (g j) u)
 | .pat es x,v=>∃b off u,v=.pointer (some ⟨b,off,none⟩)/\b<w.heap.size/\¬M b/\wb w b off es u/\bH w M x u
 | .tup l,v=>∃vs:List Value,v=.tuple vs.toArray/\a8 w M l vs
 | .agg l,v=>∃vs:List Value,v=.agg (vs.flatMap (fun u=>u.cells.toList)).toArray/\a8 w M l vs
 | .fn f l,v=>∃vs:List Value,v=.func (.func f) #[] vs.toArray/\a8 w M l vs
 | .mag n,v=>ew w w.heap.size (.agg #[.bool false,v]) (n:Int)
 | .fp b i f,v=>v=.pointer (some ⟨b,2*i+f,none⟩)
 | .bset p,v=>∃s,v=.bool s/\p s
 | .any,_=>True
 | .nfn,v=>v=.nilFunc
 | .mfn f l,v=>∃vs:List Value,v=.func (.func f) vs.toArray #[]/\a8 w M l vs
def a8(w:World)(M:Nat->Prop):List AV->List Value->Prop
 | [],[]=>True
 | a::l,v::vs=>bH w M a v/\a8 w M l vs
 | [],_::_=>False
 | _::_,[]=>False
end
def BlkS(w:World)(S:St):Prop:=∀b x,S b=some x->∃cs,w.heap[b]? = some (.cells cs x.ty (0,0))/\x.es*x.n<=cs.size /\
 (∀j,j<x.n->∃u,reads cs (x.es*j) x.es u/\bH w S.dom (x.g j) u)/\∀(k:Nat) (y:Value),cs[k]? = some y->lO y
def wl:List Int:=[7,11,13,17,19,23,29,31]
def vD(w:World):Prop:=∃cs ty,w.heap[0]? = some (.cells cs ty (0,0))/\∀r,r<8->cs[r]? = some (.int .i64 (wl.getD r 0))
structure eA(w:World)(S:St):Prop where
 z:S 0=none
 gl:vD w
 blk:BlkS w S
instance (w:World) (S:St):CoeFun (eA w S) (fun _=>BlkS w S):=⟨eA.blk⟩
def NoU(M:Nat->Prop)(w:World):Prop:=∀b,M b->∀cs ty fr,w.heap[b]? = some (.cells cs ty fr)->∀(k:Nat) (y:Value),cs[k]? = some y->lO y
def eA.noU(h:eA w S):NoU S.dom w:=by
 intro b a cs ty fr c k y d;unfold St.dom at a
 cases e:S b with
 | none=>exact absurd e a
 | some x =>
  obtain⟨cs',f,_,_,g⟩:=h b x e;rw[f]at c
  cases c
  exact g k y d
structure dA(M M':Nat->Prop)(w w':World):Prop where
 os:w'.os=w.os
 tape:w'.tape=w.tape
 output:w'.output=w.output
 size:w.heap.size<=w'.heap.size
 keep:∀k,k<w.heap.size->¬M k->w'.heap[k]? = w.heap[k]?
 shape:∀(k:Nat) (cs:Array Value) (ty:TypeId) (fr:Nat×Nat),w.heap[k]? = some (Obj.cells cs ty fr)->∃cs':Array Value,w'.heap[k]? = some (Obj.cells cs' ty fr)/\cs'.size=cs.size
 own:∀k,k<w.heap.size->M' k->M k
def dA.refl(M:Nat->Prop)(w:World):dA M M w w:=⟨rfl,rfl,rfl,ag _,fun _ _ _=>rfl,fun _ cs _ _ h=>⟨cs,h,rfl⟩,fun _ _ h=>h⟩
def dA.trans{a b c:World}(h:dA M M' a b)(k:dA M' M'' b c):dA M M'' a c :=
 ⟨k.os.trans h.os,k.tape.trans h.tape,k.output.trans h.output,bO h.size k.size,
   fun i d e=>(k.keep i (cZ d h.size) (fun f=>e (h.own i d f))).trans (h.keep i d e),
   fun i cs ty fr l=>by
    obtain⟨g,m,n⟩:=h.shape i cs ty fr l;obtain⟨j,o,p⟩:=k.shape i g ty fr m;exact⟨j,o,p.trans n⟩,
   fun i d e=>h.own i d (k.own i (cZ d h.size) e)⟩
def dA.weaken{a b:World}(h:dA M M' a b)(c:∀k,M'' k->M' k):dA M M'' a b :=
 ⟨h.os,h.tape,h.output,h.size,h.keep,h.shape,fun k d e=>h.own k d (c k e)⟩
def vD.grow(h:vD w)(d:dA M M' w w')(e:¬M 0):vD w':=by
 obtain⟨cs,ty,b,f⟩:=h;have a:0<w.heap.size:=by
  rcases aB 0 w.heap.size with a|c
  .exact a
  .rw[eg c]at b;cases b
 exact⟨cs,ty,(d.keep 0 a e).trans b,f⟩
def eA.n0(h:eA w S):¬S.dom 0:=fun k=>k h.z
def eA.grow(h:eA w S)(a:dA S.dom M' w w'):vD w':=h.gl.grow a h.n0
def vD.pos(h:vD w):0<w.heap.size:=by
 obtain⟨cs,ty,c,d⟩:=h;rcases aB 0 w.heap.size with a|b
 .exact a
 .rw[eg b]at c;cases c
def St.upd0(h:S 0=ae)(a:b≠0):S.upd b X 0=ae:=by
 unfold St.upd;rw[ah (fun e=>a e.symm)];exact h
def fT(h:w.heap[b]? = some o):b<w.heap.size:=by
 rcases aB b w.heap.size with a|c
 .exact a
 .rw[eg c]at h;cases h
def Au(h:w.cell? ad=some v):∃cs ty fr,w.heap[ad.block]? = some (.cells cs ty fr)/\∃k:Nat,cs[k]? = some v:=by
 unfold World.cell? at h;split at h
 .rename_i cs ty fr a;split at h
  .cases h
  .exact⟨cs,ty,fr,a,_,h⟩
 .cases h
def ew.grow(l:NoU M w)(f:dA M M' w w'){v:Value}{z:Int}(h:ew w w.heap.size v z):ew w' w'.heap.size v z:=by
 obtain⟨neg,A,n,c,xs,m,o,b,p,q⟩:=h;refine⟨neg,A,n,c,xs,m,o,⟨b.1,b.2.1,fun r=>?_⟩,p,q⟩;obtain⟨ad,e,g,s⟩:=b.2.2 r;refine⟨ad,e,cZ g f.size,fun j t=>?_⟩;have a:=s j t;have d:¬M ad.block:=by
  intro d;obtain⟨cs,ty,fr,i,k,u⟩:=Au a;rw[nA]at i;exact l _ d cs ty fr i k _ u
 rw[<-a];exact BC (w:=w) (by rw[nA];exact f.keep _ g d)
def wb.grow(a:dA M M' w w'){b off es:Nat}{u:Value}(c:b<w.heap.size)(d:¬M b)(h:wb w b off es u):wb w' b off es u:=by
 obtain⟨cs,ty,fr,e,f⟩:=h;exact⟨cs,ty,fr,(a.keep b c d).trans e,f⟩
mutual
theorem bH.grow{M M':Nat->Prop}{w w':World}(q:NoU M w)(d:dA M M' w w'):∀(a:AV) (v:Value),bH w M a v->bH w' M' a v
 | .int k n,v,h=>by simpa [bH]using h
 | .bool b,v,h=>by simpa [bH]using h
 | .big z,v,h=>by simp only[bH]at h ⊢;exact h.grow q d
 | .nil,v,h=>by simpa [bH]using h
 | .sl es b off len,v,h=>by
  simp only[bH]at h ⊢;obtain⟨cap,cs,ty,fr,m,o,y,E⟩:=h;obtain⟨cs',F,G⟩:=d.shape b cs ty fr y;exact⟨cap,cs',ty,fr,m,o,F,by rw[G];exact E⟩
 | .ptr es b i,v,h=>by simpa [bH]using h
 | .lst es n g,v,h=>by
  simp only[bH]at h ⊢;obtain⟨A,c,m,o,y⟩:=h;refine⟨A,c,m,o,fun H=>?_⟩;obtain⟨b,off,e,r,t,I⟩:=y H;refine⟨b,off,e,cZ r d.size,fun s=>t (d.own b r s),fun j B=>?_⟩;obtain⟨u,C,D⟩:=I j B;exact⟨u,C.grow d r t,bH.grow q d (g j) u D⟩
 | .pat es x,v,h=>by
  simp only[bH]at h ⊢;obtain⟨b,off,u,m,r,t,C,J⟩:=h;exact⟨b,off,u,m,cZ r d.size,fun s=>t (d.own b r s),C.grow d r t,bH.grow q d x u J⟩
 | .tup l,v,h=>by
  simp only[bH]at h ⊢;obtain⟨vs,m,o⟩:=h;exact⟨vs,m,a8.grow q d l vs o⟩
 | .agg l,v,h=>by
  simp only[bH]at h ⊢;obtain⟨vs,m,o⟩:=h;exact⟨vs,m,a8.grow q d l vs o⟩
 | .fn f l,v,h=>by
  simp only[bH]at h ⊢;obtain⟨vs,m,o⟩:=h;exact⟨vs,m,a8.grow q d l vs o⟩
 | .mag n,v,h=>by simp only[bH]at h ⊢;exact h.grow q d
 | .fp b i f,v,h=>by simpa [bH]using h
 | .bset p,v,h=>by simpa [bH]using h
 | .any,v,h=>by simp[bH]
 | .nfn,v,h=>by simpa [bH]using h
 | .mfn f l,v,h=>by
  simp only[bH]at h ⊢;obtain⟨vs,m,o⟩:=h;exact⟨vs,m,a8.grow q d l vs o⟩
theorem a8.grow{M M':Nat->Prop}{w w':World}(b:NoU M w)(c:dA M M' w w'):∀(l:List AV) (vs:List Value),a8 w M l vs->a8 w' M' l vs
 | [],[],_=>by simp[a8]
 | a::l,v::vs,h=>by
  simp only[a8]at h ⊢;exact⟨bH.grow b c a v h.1,a8.grow b c l vs h.2⟩
 | [],_::_,h=>by simp[a8]at h
 | _::_,[],h=>by simp[a8]at h
end
def cJ(f:Nat)(args:List AV)(S:St)(post:AV->St->Prop):Prop :=
 ∀(w:World) (vs:List Value),eA w S->a8 w S.dom args vs->Calls ak f vs.toArray w (fun e w' =>
  ∃v r S',e=.returned v/\post r S'/\bH w' S'.dom r v/\eA w' S'/\dA S.dom S'.dom w w')
def cJ.mono(h:cJ f args S post)(a:∀r S',post r S'->post' r S'):cJ f args S post' :=
 fun w vs b c=>(h w vs b c).mono fun _ _ ⟨v,r,S',d,e,g⟩=>⟨v,r,S',d,a r S' e,g⟩

abbrev Tm:=Nat->AV
variable{O:Tm}
def Tm.put_ex:∃p:Tm->Option Nat->AV->Tm,∀O d x,p O d x=(match d with
 | some d=>fun t=>if t=d then x else O t
 | ae=>O):=⟨_,fun _ _ _=>rfl⟩
noncomputable def Tm.put:Tm->Option Nat->AV->Tm:=fN Tm.put_ex
def Tm.put_eq(O:Tm)(d:Option Nat)(x:AV):O.put d x=(match d with
 | some d=>fun t=>if t=d then x else O t
 | ae=>O):=dj Tm.put_ex O d x
def ofV:Value->AV
 | .int k n=>.int k n
 | .bool b=>.bool b
 | .slice ae 0 0=>.nil
 | _=>.any
def ev(O:Tm):Operand->AV
 | .tmp t=>O t
 | .const v=>ofV v
 | .global g=>.ptr 1 g 0
 | .func f=>.fn f []
def Oi(w:World)(M:Nat->Prop)(v:Value):bH w M (ofV v) v:=by
 unfold ofV;split<;>simp[bH]
structure RT(O:Tm)(S:St)(N:Nat)(a:Act)(w:World):Prop where
 defers:a.defers=[]
 size:a.tmps.size=N
 tm:∀t,bH w S.dom (O t) (a.tmps.getD t undef)
 st:eA w S
def RT.ev(h:RT O S N a w)(x:Operand):bH w S.dom (ev O x) (a.eval x):=by
 cases x with
 | tmp t=>exact h.tm t
 | const v=>exact Oi _ _ v
 | global g=>simp only[Go.Proofs.YtdobfmlmenaajaaGreatDoor.ev,bH,dM];rfl
 | func f=>simp only[Go.Proofs.YtdobfmlmenaajaaGreatDoor.ev,bH];exact⟨[],rfl,by simp[a8]⟩
def RT.put(h:RT O S N a w)(g:dA S.dom S'.dom w w')(f:eA w' S'){d:Option Nat}(i:∀k,d=some k->k<N){x:AV}{v:Value}(j:bH w' S'.dom x v) :
  RT (O.put d x) S' N (a.put d v) w':=by
 have b:∀t,bH w' S'.dom (O t) (a.tmps.getD t undef):=fun t=>bH.grow h.st.noU g _ _ (h.tm t)
 cases d with
 | none=>rw[Tm.put_eq];exact⟨h.defers,h.size,b,f⟩
 | some d =>
  refine⟨h.defers,by simp[Act.put,h.size],fun t=>?_,f⟩
  have c:=i d rfl;simp only[Tm.put_eq,Act.put];by_cases e:t=d
  .subst e;have:(a.tmps.setIfInBounds t v).getD t undef=v:=by
    simp[Array.getD,h.size,c]
   rw[aj rfl,this];exact j
  .have:(a.tmps.setIfInBounds d v).getD t undef=a.tmps.getD t undef:=by
    simp only[cR];rw[dL (ai e)]
   rw[ah e,this];exact b t
def H9(op:BinOp)(t:TypeId)(x y:AV)(K:AV->Prop):Prop:=match x,y with
 | .int k a,.int k' b=>k=k'/\(match op with
  | .add=>K (.int k (k.wrap (a+b)))
  | .sub=>K (.int k (k.wrap (a-b)))
  | .mul=>K (.int k (k.wrap (a*b)))
  | .quo=>b≠0/\K (.int k (k.wrap (a.tdiv b)))
  | .rem=>b≠0/\K (.int k (a.tmod b))
  | .eql=>K (.bool (a==b))
  | .neq=>K (.bool (a != b))
  | .lss=>K (.bool (decide (a<b)))
  | .leq=>K (.bool (decide (a<=b)))
  | .gtr=>K (.bool (decide (b<a)))
  | .geq=>K (.bool (decide (b<=a)))
  | _=>False)
 | .bool a,.bool b=>t=4/\(match op with
  | .eql=>K (.bool (a==b))
  | .neq=>K (.bool (a != b))
  | _=>False)
 | .bset p,.bset q=>t=4/\op=.neq/\K (.bset (fun s=>∃a b,p a/\q b/\s=(a != b)))
 | .sl _ _ _ _,.nil=>(t=29/\op=.eql)/\K (.bool false)
 | .lst _ n _,.nil=>(t=29/\op=.eql/\0<n)/\K (.bool false)
 | .nil,.nil=>(t=29/\op=.eql)/\K (.bool true)
 | _,_=>False
def AK(h:H9 op ty x y K){w:World}{M:Nat->Prop}{vx vy:Value}(d:bH w M x vx)(e:bH w M y vy)(ox oy:Operand) :
  ∃z v,K z/\bH w M z v/\(do eqGuard op ty ox oy vx vy;binOp op ty vx vy:Sem Value).run ak w=.ok v w:=by
 have f:∀(w:World) (a:Option Addr) (n c n' c':Nat),(binOp .eql 29 (.slice a n c) (.slice none n' c')).run ak w=.ok (.bool a.isNone) w:=fun w a n c n' c'=>AU w _ _ a n c n' c' underlying29;unfold H9 at h;split at h
 .rename_i k a k' b;obtain⟨rfl,h⟩:=h;simp only[bH]at d e;subst d e;split at h
  .exact⟨_,.int k (k.wrap (a+b)),h,by simp[bH],by simp[eqGuard,binOp,Op.intArith]⟩
  .exact⟨_,.int k (k.wrap (a-b)),h,by simp[bH],by simp[eqGuard,binOp,Op.intArith]⟩
  .exact⟨_,.int k (k.wrap (a*b)),h,by simp[bH],by simp[eqGuard,binOp,Op.intArith]⟩
  .exact⟨_,.int k (k.wrap (a.tdiv b)),h.2,by simp[bH],by simp[eqGuard,binOp,Op.intDiv,h.1]⟩
  .exact⟨_,.int k (a.tmod b),h.2,by simp[bH],by simp[eqGuard,binOp,Op.intDiv,h.1]⟩
  .exact⟨_,.bool (a==b),h,by simp[bH],by simp[eqGuard,binOp,Op.intCmp]⟩
  .exact⟨_,.bool (a != b),h,by simp[bH],by simp[eqGuard,binOp,Op.intCmp]⟩
  .exact⟨_,.bool (decide (a<b)),h,by simp[bH],by simp[eqGuard,binOp,Op.intCmp]⟩
  .exact⟨_,.bool (decide (a<=b)),h,by simp[bH],by simp[eqGuard,binOp,Op.intCmp]⟩
  .exact⟨_,.bool (decide (b<a)),h,by simp[bH],by simp[eqGuard,binOp,Op.intCmp]⟩
  .exact⟨_,.bool (decide (b<=a)),h,by simp[bH],by simp[eqGuard,binOp,Op.intCmp]⟩
  .exact h.elim
 .rename_i a b;obtain⟨rfl,h⟩:=h;simp only[bH]at d e;subst d e;have i:(underlying 4).run ak w=.ok .bool w:=by
   simp[underlying,CA]
  have g:(Op.equal 4 (.bool a) (.bool b)).run ak w=.ok (a==b) w:=by
   unfold Op.equal Op.maxDepth;rw[Op.equalIn];simp[i]
  split at h
  .exact⟨_,.bool (a==b),h,by simp[bH],by simp[eqGuard,binOp,g]⟩
  .exact⟨_,.bool (a != b),h,by simp[bH],by simp[eqGuard,binOp,g];cases a<;>cases b<;>rfl⟩
  .exact h.elim
 .rename_i p q;obtain⟨rfl,rfl,h⟩:=h;simp only[bH]at d e;obtain⟨a,rfl,l⟩:=d;obtain⟨b,rfl,j⟩:=e;have i:(underlying 4).run ak w=.ok .bool w:=by
   simp[underlying,CA]
  have g:(Op.equal 4 (.bool a) (.bool b)).run ak w=.ok (a==b) w:=by
   unfold Op.equal Op.maxDepth;rw[Op.equalIn];simp[i]
  exact⟨_,.bool (a != b),h,by simp only[bH];exact⟨_,rfl,a,b,l,j,rfl⟩,by simp[eqGuard,binOp,g];cases a<;>cases b<;>rfl⟩
 .obtain⟨⟨rfl,rfl⟩,h⟩:=h;simp only[bH]at d e;obtain⟨cap,cs,ty,fr,rfl,_⟩:=d;subst e;exact⟨_,.bool false,h,by simp[bH],by simp[eqGuard,f]⟩
 .obtain⟨⟨rfl,rfl,m⟩,h⟩:=h;simp only[bH]at d e;obtain⟨A,c,rfl,_,j⟩:=d;obtain⟨b,off,rfl,_⟩:=j m;subst e;exact⟨_,.bool false,h,by simp[bH],by simp[eqGuard,f]⟩
 .obtain⟨⟨rfl,rfl⟩,h⟩:=h;simp only[bH]at d e;subst d e;exact⟨_,.bool true,h,by simp[bH],by simp[eqGuard,f]⟩
 .exact h.elim

def fF:TypeId->Option (Nat×Nat)
 | 2=>some (1,1)|3=>some (1,1)|4=>some (1,1)|5=>some (1,1)|22=>some (1,1)|25=>some (1,1)|28=>some (1,1)|29=>some (1,1)
 | 34=>some (1,1)|41=>some (1,1)|48=>some (1,1)|52=>some (1,1)|59=>some (1,1)|97=>some (1,1)|146=>some (1,1)|158=>some (1,1)|192=>some (1,1)|216=>some (1,1)
 | 50=>some (2,1)|167=>some (2,2)|195=>some (2,2)|197=>some (2,7)
 | 24=>some (1,4)|27=>some (1,6)|107=>some (1,2)|160=>some (1,4)|183=>some (1,2)|202=>some (1,2)|238=>some (1,3)|239=>some (1,8)|218=>some (1,2)
 | _=>ae
def KK:TypeDesc->Bool
 | .struct _=>true
 | .array _ _=>true
 | _=>false
def Lt(P:Program)(t es k:Nat):Bool:=match P.info? t,P.underlying t with
 | some i,some d=>i.size==es*k&&(if KK d then es*k != 1 else es==1&&k==1)
 | _,_=>false
def rV{t:Nat}(h:fF t=some (es,k)):Lt ak t es k=true/\(es=1∨es=2)/\0<k:=by
 unfold fF at h;split at h<;>first
  | (cases h;refine⟨by kernel_rfl,om,om⟩)
  | cases h
def zi{t:Nat}(h:Lt ak t es k=true):∃i d,ak.info? t=some i/\i.size=es*k/\ak.underlying t=some d/\((KK d=true/\es*k≠1)∨(KK d=false/\es=1/\k=1)):=by
 unfold Lt at h;split at h
 .rename_i i d c e;simp only[cU,vL]at h;refine⟨i,d,c,h.1,e,?_⟩;have a:=h.2;split at a
  .rename_i b;exact a9 ⟨b,by simpa using a⟩
  .rename_i b;simp at a;exact aR ⟨by simpa using b,a.1,a.2⟩
 .cases h
def dZ(g:Nat->AV)(i:Nat):Nat->List AV
 | 0=>[]
 | k+1=>g i::dZ g (i+1) k
def rY(h:one u):u.cells=#[u]:=by cases u<;>first|rfl|exact h.elim
def oA{off:Nat}{cs:Array Value}(h:w.heap[b]? = some (.cells cs ty fr)):w.cell? ⟨b,off,ae⟩=cs[off]?:=by
 simp[World.cell?,h]
def iR(b off k:Nat):(⟨b,off,ae⟩:Addr).add k=⟨b,off+k,ae⟩:=by
 unfold Addr.add;split<;>simp_all
theorem sF{w:World}{b:Nat}{cs:Array Value}{ty:TypeId}{fr:Nat×Nat}(h:w.heap[b]? = some (.cells cs ty fr))(off:Nat)(P:Program) :
  ∀(l:List Value) (i:Nat) (acc:Array Value),(∀j,j<l.length->cs[off+i+j]? = l[j]?)->(loadCellsFrom ⟨b,off,ae⟩ i l.length acc).run P w=.ok (acc++l.toArray) w
 | [],i,acc,_=>by simp[loadCellsFrom]
 | v::l,i,acc,a=>by
  have c:=a 0 sm
  simp only[cu,dE]at c;have ih:=sF h off P l (i+1) (acc.push v) (fun j d=>by
   have:=a (j+1) (by simp;omega)
   rw[de]at this;rw[<-this];congr 1;omega)
  simp only[cK,loadCellsFrom];simp only[load,iR];simp[Sem.run,bind,Sem.bind,oA h,c];simpa using ih
def Ca(a:ak.underlying t=some d)(w:World):(isAgg t).run ak w=.ok (KK d) w:=by
 simp only[isAgg,j9,bM a,io]
 cases d<;>rfl
def df(a:ak.info? t=some i)(w:World):(sizeOf t).run ak w=.ok i.size w:=by
 simp[sizeOf,typeInfo,a]
def q9{off t:Nat}{cs:Array Value}(h:w.heap[b]? = some (.cells cs ty fr))(e:fF t=some (es,k))(f:es*k≠1)
  (l:List Value) (g:l.length=es*k) (m:∀j,j<l.length->cs[off+j]? = l[j]?) :
  (Instr.loadAt t (.pointer (some ⟨b,off,ae⟩))).run ak w=.ok (.agg l.toArray) w:=by
 obtain⟨c,u,_⟩:=rV e;obtain⟨i,d,n,o,p,a⟩:=zi c;have q:KK d=true:=a.elim (fun a=>a.1) (fun a=>by rw[a.2.1,a.2.2]at f;omega)
 have r:=sF h off ak l 0 #[] (fun j s=>by rw[cu];exact m j s)
 simp only[Instr.loadAt,Instr.sureAddr,pure_bind,loadVar,j9,Ca p,q,io,aE,df n,loadCells];rw[o,<-g,r];simp
def rW{off t:Nat}{cs:Array Value}(h:w.heap[b]? = some (.cells cs ty fr))(e:fF t=some (es,1))(c:reads cs off es u) :
  (Instr.loadAt t (.pointer (some ⟨b,off,ae⟩))).run ak w=.ok u w:=by
 obtain⟨f,g,_⟩:=rV e;rcases g with rfl|rfl
 .obtain⟨i,d,r,s,k,a⟩:=zi f;have l:KK d=false:=a.elim (fun a=>absurd rfl a.2) (fun a=>a.1);simp only[reads]at c;simp only[Instr.loadAt,Instr.sureAddr,pure_bind,loadVar,j9,Ca k,l,io];simp[oA h,c.1]
 .simp only[reads]at c;obtain⟨x,y,rfl,m,n,o,p⟩:=c;exact q9 h e om [x,y] rfl (fun j q=>by
   match j with
   | 0=>simpa using o
   | 1=>simpa using p
   | j+2=>simp at q;omega)
theorem nN{w:World}{M:Nat->Prop}{cs:Array Value}{es n:Nat}{g:Nat->AV}(b:∀j,j<n->∃u,reads cs (es*j) es u/\bH w M (g j) u) :
  ∀(k i:Nat),i+k<=n->∃vs:List Value,a8 w M (dZ g i k) vs/\(vs.flatMap (fun u=>u.cells.toList)).length=es*k/\∀j,j<es*k->cs[es*i+j]? = (vs.flatMap (fun u=>u.cells.toList))[j]?
 | 0,i,_=>⟨[],by simp[dZ,a8],sm,fun j b=>by simp at b⟩
 | k+1,i,o=>by
  obtain⟨u,c,f⟩:=b i om;obtain⟨vs,e,h,l⟩:=nN b k (i+1) om;have a:u.cells.toList.length=es/\∀j,j<es->cs[es*i+j]? = u.cells.toList[j]?:=by
   match es,c with
   | 1,c =>
    simp only[reads]at c;rw[rY c.2];exact⟨rfl,fun j b=>by
     obtain rfl:j=0:=om
     simpa using c.1⟩
   | 2,c =>
    simp only[reads]at c;obtain⟨x,y,rfl,_,_,m,e⟩:=c;refine⟨rfl,fun j b=>?_⟩
    match j with
    | 0=>simpa [Value.cells]using m
    | 1=>simpa [Value.cells]using e
    | j+2=>omega
  refine⟨u::vs,by simp only[dZ,a8];exact⟨f,e⟩,by simp only[ef,CI,a.1,h];rw[eB];omega,fun j b=>?_⟩
  simp only[ef];by_cases d:j<es
  .rw[fO (by rw[a.1];exact d)];exact a.2 j d
  .rw[fC (by rw[a.1];omega),a.1,<-l (j-es) (by rw[eB]at b;omega)]
   congr 1;rw[eB];omega
def rI(t:TypeId)(x:AV)(S:St)(K:AV->Prop):Prop:=match x with
 | .pat es y=>fF t=some (es,1)/\K y
 | .ptr es b i=>(match S b with
  | some X=>(match fF t with
   | some (es',k)=>es'=es/\X.es=es/\i+k<=X.n/\K (if k=1 then X.g i else .agg (dZ X.g i k))
   | ae=>False)
  | ae=>t=239/\es=1/\b=0/\i=0/\K (.agg (wl.map fun z=>.int .i64 z)))
 | .fp b i f=>(match S b with
  | some X=>X.es=2/\i<X.n/\(match X.g i with
   | .big z=>if t=48/\f=1 then K (.mag z.natAbs)else if t=4/\f=0 then K (.bset (fun s=>sg s z.natAbs=z))else False
   | _=>False)
  | ae=>False)
 | _=>False
def rH(h:rI t x S K){w:World}(D:eA w S){vx:Value}(d:bH w S.dom x vx) :
  ∃z v,K z/\bH w S.dom z v/\(Instr.loadAt t vx).run ak w=.ok v w:=by
 cases x with
 | pat es y =>
  simp only[rI]at h;simp only[bH]at d;obtain⟨b,off,u,rfl,_,_,⟨cs,ty,fr,m,l⟩,o⟩:=d;exact⟨_,u,h.2,o,rW m h.1 l⟩
 | ptr es b i =>
  simp only[rI]at h
  cases q:S b with
  | none =>
   rw[q]at h;obtain⟨rfl,rfl,rfl,rfl,r⟩:=h;obtain⟨cs,ty,E,C⟩:=D.gl;simp only[bH]at d;subst d;refine⟨_,.agg (wl.map fun z=>dv .i64 z).toArray,r,?_,q9 E (show fF 239=some (1,8) by decide) dc (wl.map fun z=>dv .i64 z) rfl fun j a=>?_⟩
   .simp only[bH];exact⟨wl.map fun z=>dv .i64 z,rfl,by simp[wl,a8,bH]⟩
   .rw[dM,aJ,C j a];rcases (show j=0∨j=1∨j=2∨j=3∨j=4∨j=5∨j=6∨j=7 by simp[wl]at a;omega)with rfl|rfl|rfl|rfl|rfl|rfl|rfl|rfl<;>rfl
  | some X =>
   rw[q]at h
   cases s:fF t with
   | none=>rw[s]at h;exact h.elim
   | some p =>
    obtain⟨es',k⟩:=p;rw[s]at h;obtain⟨rfl,rfl,O,r⟩:=h;simp only[bH]at d;subst d;obtain⟨cs,m,F,a,G⟩:=D b X q;by_cases B:k=1
    .subst B;obtain⟨u,l,o⟩:=a i om;rw[aj rfl]at r;exact⟨_,u,r,o,rW m s l⟩
    .obtain⟨vs,E,C,P⟩:=nN a k i O;rw[ah B]at r;have l:bH w S.dom (.agg (dZ X.g i k)) (.agg (vs.flatMap (fun u=>u.cells.toList)).toArray):=by
      simp only[bH];exact⟨vs,rfl,E⟩
     refine⟨_,_,r,l,q9 m s ?_ _ C (fun j a=>P j (by rw[<-C];exact a))⟩
     obtain⟨_,H,Q⟩:=rV s;intro e;rcases H with M|M<;>rw[M]at e<;>omega
 | fp b i f =>
  simp only[rI]at h
  cases q:S b with
  | none=>rw[q]at h;exact h.elim
  | some X =>
   rw[q]at h;obtain⟨I,J,h⟩:=h;simp only[bH]at d;subst d;obtain⟨cs,m,F,a,G⟩:=D b X q;obtain⟨u,l,o⟩:=a i J;rw[I]at l
   cases R:X.g i<;>rw[R]at h o<;>try exact h.elim
   rename_i z;simp only[bH]at o;obtain⟨neg,A,n,c,xs,rfl,L,T,U,rfl⟩:=o;obtain⟨x,y,H,ox,oy,V,W⟩:=l
   cases H
   have N:(sg neg (bC xs)).natAbs=bC xs:=by cases neg<;>simp[sg]
   simp only at h;split at h
   .rename_i e;obtain⟨rfl,rfl⟩:=e;refine⟨_,.slice A n c,h,?_,rW m (rfl:fF 48=some (1,1)) ⟨W,oy⟩⟩;simp only[bH];exact⟨false,A,n,c,xs,rfl,L,T,U,by rw[N];simp[sg]⟩
   .split at h
    .rename_i e;obtain⟨rfl,rfl⟩:=e;exact⟨_,.bool neg,h,by simp only[bH];exact⟨neg,rfl,by rw[N]⟩,rW m (rfl:fF 4=some (1,1)) ⟨V,ox⟩⟩
    .exact h.elim
 | _=>exact h.elim

def fI(w:World)(b:Nat)(cs:Array Value)(ty:TypeId):World:={ w with heap:=w.heap.setIfInBounds b (.cells cs ty (0,0)) }
def jF(a:b<w.heap.size)(cs:Array Value)(ty:TypeId)(k:Nat):(fI w b cs ty).heap[k]? = if k=b then some (.cells cs ty (0,0))else w.heap[k]?:=by
 simp only[fI];by_cases e:k=b
 .subst e;simp[a]
 .rw[ah e,dL (ai e)]
def CS(w:World)(b:Nat)(cs:Array Value)(ty:TypeId):(fI w b cs ty).heap.size=w.heap.size:=by simp[fI]
def CT{cs:Array Value}(h:w.heap[b]? = some (.cells cs ty (0,0))):fI w b cs ty=w:=by
 unfold fI;have:w.heap.setIfInBounds b (.cells cs ty (0,0))=w.heap:=by
  apply qU;intro i;by_cases e:i=b
  .subst e;rw[iC (fT h),h]
  .rw[dL (ai e)]
 rw[this]
def ya(w:World)(b:Nat)(c a:Array Value)(ty:TypeId):fI (fI w b c ty) b a ty=fI w b a ty:=by
 simp[fI]
def yd{off:Nat}{cs:Array Value}(h:w.heap[b]? = some (.cells cs ty (0,0)))(u:Value):w.setCell ⟨b,off,ae⟩ u=fI w b (cs.setIfInBounds off u) ty:=by
 unfold World.setCell fI;congr 1;apply qU;intro i;rw[R7];by_cases e:b=i
 .subst e;rw[aj rfl,h,iC (fT h)];rfl
 .rw[ah e,dL e]
def eO(cs:Array Value)(o:Nat):List Value->Array Value
 | []=>cs
 | v::l=>eO (cs.setIfInBounds o v) (o+1) l
theorem iE:∀(l:List Value) (cs:Array Value) (o:Nat),(eO cs o l).size=cs.size
 | [],_,_=>rfl
 | v::l,cs,o=>by simp[eO,iE l]
theorem iP:∀(l:List Value) (cs:Array Value) (o j:Nat),o+l.length<=cs.size->(eO cs o l)[j]? = if o<=j/\j<o+l.length then l[j-o]? else cs[j]?
 | [],cs,o,j,_=>by rw[ah (by simp only[iq];omega)];rfl
 | v::l,cs,o,j,h=>by
  simp only[cK]at h;rw[eO,iP l _ (o+1) j (by simp;omega)]
  by_cases e:j=o
  .subst e;rw[ah om,aj sm,iC om];simp
  .rw[dL (ai e)];by_cases a:o+1<=j/\j<o+1+l.length
   .rw[aj a,aj (by simp;omega),(om:j-o=(j-(o+1))+1),de]
   .rw[ah a,ah (by simp;omega)]
theorem kg(P:Program){b off:Nat}{ty:TypeId}:∀(l:List Value) (w:World) (cs:Array Value) (i:Nat),w.heap[b]? = some (.cells cs ty (0,0))->off+i+l.length<=cs.size->(∀u∈l,one u) ->
  (storeCells ⟨b,off,ae⟩ l i).run P w=.ok () (fI w b (eO cs (off+i) l) ty)
 | [],w,cs,i,h,_,_=>by simp[storeCells,eO,CT h]
 | v::l,w,cs,i,h,f,e=>by
  simp only[cK]at f;have g:=e v (fB ..);have hcell:w.cell? ⟨b,off+i,ae⟩=cs[off+i]?:=oA h;have a:cs[off+i]? = some cs[off+i]:=dw om;have c:w.frozen? ⟨b,off+i,ae⟩=false:=by simp[World.frozen?,h]
  have d:(store ⟨b,off+i,ae⟩ v).run P w=.ok () (fI w b (cs.setIfInBounds (off+i) v) ty):=by
   cases v<;>first|exact g.elim|simp[store,Sem.run,hcell,a,c,yd h]
  have ih:=kg P (b:=b) (off:=off) (ty:=ty) l (fI w b (cs.setIfInBounds (off+i) v) ty) (cs.setIfInBounds (off+i) v) (i+1)
   (by rw[jF (fT h),aj rfl]) (by simp;omega) (fun u j=>e u (ee _ j))
  simp only[storeCells,iR,j9,d,io,ih,ya,eO];rfl
def ei:Nat->AV->Prop
 | 1,.int k _=>k≠.u32
 | 1,.bool _=>True
 | 1,.nil=>True
 | 1,.sl ..=>True
 | 1,.ptr ..=>True
 | 1,.lst ..=>True
 | 1,.pat ..=>True
 | 1,.fn ..=>True
 | 1,.nfn=>True
 | 1,.mfn ..=>True
 | 2,.big _=>True
 | _,_=>False
def C5(h:ei es y)(a:bH w M y v) :
  (es=1/\one v/\lO v)∨(es=2/\∃p q,v=.agg #[p,q]/\one p/\one q/\lO p/\lO q):=by
 match es,y,h,a with
 | 1,.int k n,h,a =>
  simp only[bH]at a;subst a;refine a9 ⟨rfl,trivial,?_⟩
  cases k<;>first|trivial|exact absurd rfl h
 | 1,.bool _,h,a=>simp only[bH]at a;subst a;exact a9 ⟨rfl,trivial,trivial⟩
 | 1,.nil,h,a=>simp only[bH]at a;subst a;exact a9 ⟨rfl,trivial,trivial⟩
 | 1,.sl ..,h,a=>simp only[bH]at a;obtain⟨_,_,_,_,rfl,_⟩:=a;exact a9 ⟨rfl,trivial,trivial⟩
 | 1,.ptr ..,h,a=>simp only[bH]at a;subst a;exact a9 ⟨rfl,trivial,trivial⟩
 | 1,.lst ..,h,a=>simp only[bH]at a;obtain⟨_,_,rfl,_⟩:=a;exact a9 ⟨rfl,trivial,trivial⟩
 | 1,.pat ..,h,a=>simp only[bH]at a;obtain⟨_,_,_,rfl,_⟩:=a;exact a9 ⟨rfl,trivial,trivial⟩
 | 1,.fn ..,h,a=>simp only[bH]at a;obtain⟨_,rfl,_⟩:=a;exact a9 ⟨rfl,trivial,trivial⟩
 | 1,.nfn,h,a=>simp only[bH]at a;subst a;exact a9 ⟨rfl,trivial,trivial⟩
 | 1,.mfn ..,h,a=>simp only[bH]at a;obtain⟨_,rfl,_⟩:=a;exact a9 ⟨rfl,trivial,trivial⟩
 | 2,.big z,h,a =>
  simp only[bH]at a;obtain⟨neg,A,n,c,xs,rfl,_⟩:=a;exact aR ⟨rfl,_,_,rfl,trivial,trivial,trivial,trivial⟩
def rT(h:ei es y)(e:bH w M y v) :
  v.cells.size=es/\(∀u∈v.cells.toList,one u/\lO u)/\∀(cs:Array Value) (o:Nat),(∀j,j<es->cs[o+j]? = v.cells[j]?)->reads cs o es v:=by
 rcases C5 h e with⟨rfl,a,c⟩|⟨rfl,p,q,rfl,a,c,f,g⟩
 .rw[rY a];refine⟨rfl,fun u b=>by simp at b;subst b;exact⟨a,c⟩,fun cs o d=>?_⟩
  have:=d 0 om;simp only[reads];exact⟨by simpa using this,a⟩
 .refine⟨rfl,fun u b=>?_,fun cs o d=>?_⟩
  .simp[Value.cells]at b;rcases b with rfl|rfl
   .exact⟨a,f⟩
   .exact⟨c,g⟩
  .simp only[reads];exact⟨p,q,rfl,a,c,by simpa [Value.cells]using d 0 om,by simpa [Value.cells]using d 1 om⟩
def NR(h:S b≠ae):(S.upd b X).dom=S.dom:=by
 funext k;simp only[St.dom,St.upd];by_cases e:k=b
 .subst e;simp[h]
 .simp[e]
def eA.write(f:eA w S){b:Nat}{X X':eo}(l:S b=some X){cs cs':Array Value}(s:w.heap[b]? = some (.cells cs X.ty (0,0)))(o:cs'.size=cs.size)
  (t:X'.ty=X.ty) (v:X'.es*X'.n<=cs'.size) (x:∀j,j<X'.n->∃u,reads cs' (X'.es*j) X'.es u/\bH w S.dom (X'.g j) u) (A:∀(k:Nat) (y:Value),cs'[k]? = some y->lO y) :
  eA (fI w b cs' X.ty) (S.upd b X')/\dA S.dom (S.upd b X').dom w (fI w b cs' X.ty):=by
 have a:=fT s;have B:(S.upd b X').dom=S.dom:=NR (by rw[l];simp)
 have m:dA S.dom (S.upd b X').dom w (fI w b cs' X.ty):=by
  rw[B];refine⟨rfl,rfl,rfl,by rw[CS];exact ag _,fun k H C=>?_,fun k c ty fr p=>?_,fun _ _ h=>h⟩
  .rw[jF a,ah];intro e;subst e;exact C (by simp[St.dom,l])
  .rw[jF a];by_cases e:k=b
   .subst e;rw[s]at p;cases p;exact⟨cs',by rw[aj rfl],o⟩
   .exact⟨c,by rw[ah e];exact p,rfl⟩
 refine⟨⟨St.upd0 f.z (fun e=>by subst e;rw[f.z]at l;cases l),f.grow m,fun k Y i=>?_⟩,m⟩
 simp only[St.upd]at i;by_cases e:k=b
 .subst e;rw[aj rfl]at i
  cases i
  refine⟨cs',by rw[jF a,aj rfl,t],v,fun j d=>?_,A⟩
  obtain⟨u,q,r⟩:=x j d;exact⟨u,q,bH.grow f.noU m _ _ r⟩
 .rw[ah e]at i;obtain⟨c,q,r,D,E⟩:=f k Y i;refine⟨c,by rw[jF a,ah e];exact q,r,fun j d=>?_,E⟩
  obtain⟨u,F,G⟩:=D j d;exact⟨u,F,bH.grow f.noU m _ _ G⟩
def eA.new(a:eA w S){X:eo}{cs:Array Value}(p:X.es*X.n<=cs.size)
  (q:∀j,j<X.n->∃u,reads cs (X.es*j) X.es u/\bH w S.dom (X.g j) u) (r:∀(k:Nat) (y:Value),cs[k]? = some y->lO y) :
  S w.heap.size=ae/\eA (w.alloc (.cells cs X.ty)) (S.upd w.heap.size X)/\dA S.dom (S.upd w.heap.size X).dom w (w.alloc (.cells cs X.ty)):=by
 have hnone:S w.heap.size=ae:=by
  cases e:S w.heap.size with
  | none=>rfl
  | some Y =>
   obtain⟨c,d,_⟩:=a _ Y e;exact absurd (fT d) (cB _)
 have h:∀k,(w.alloc (.cells cs X.ty)).heap[k]? = if k=w.heap.size then some (.cells cs X.ty (0,0))else w.heap[k]?:=by
  intro k;show(w.heap.push _)[k]? = _;rw[Array.getElem?_push]
 have i:dA S.dom (S.upd w.heap.size X).dom w (w.alloc (.cells cs X.ty)):=by
  refine⟨rfl,rfl,rfl,sm,fun k s _=>?_,fun k c ty fr o=>⟨c,?_,rfl⟩,fun k s l=>?_⟩
  .rw[h,ah om]
  .rw[h,ah (by have:=fT o;omega)];exact o
  .simp only[St.dom,St.upd]at l;rw[ah om]at l;exact l
 refine⟨hnone,⟨St.upd0 a.z (by have:=a.gl.pos;omega),a.grow i,fun k Y f=>?_⟩,i⟩
 simp only[St.upd]at f;by_cases e:k=w.heap.size
 .rw[aj e]at f
  cases f
  refine⟨cs,by rw[h,aj e],p,fun j b=>?_,r⟩
  obtain⟨u,d,m⟩:=q j b;exact⟨u,d,bH.grow a.noU i _ _ m⟩
 .rw[ah e]at f;obtain⟨c,d,m,t,v⟩:=a k Y f;refine⟨c,by rw[h,ah e];exact d,m,fun j b=>?_,v⟩
  obtain⟨u,x,A⟩:=t j b;exact⟨u,x,bH.grow a.noU i _ _ A⟩

def Ei(s:Sem Value)(w:World)(S:St)(K:AV->St->Prop):Prop :=
 ∃z v w' S',K z S'/\bH w' S'.dom z v/\eA w' S'/\dA S.dom S'.dom w w'/\s.run ak w=.ok v w'
def aQ(g:Nat->AV)(i:Nat)(y:AV):Nat->AV:=fun j=>if j=i then y else g j
def ft(g:Nat->AV)(i:Nat)(l:List AV):Nat->AV:=fun j=>if i<=j/\j<i+l.length then l.getD (j-i) .any else g j
def ti(t:TypeId)(x y:AV)(S:St)(K:St->Prop):Prop:=match x with
 | .ptr es b i=>(match S b with
  | some X=>(match fF t with
   | some (es',k)=>es'=es/\X.es=es/\i+k<=X.n/\(if k=1 then ei es y/\K (S.upd b { X with g:=aQ X.g i y })else(match y with
    | .agg l=>l.length=k/\(∀z∈l,ei es z)/\K (S.upd b { X with g:=ft X.g i l })
    | _=>False))
   | ae=>False)
  | ae=>False)
 | _=>False
theorem iO{w:World}{M:Nat->Prop}{es:Nat}:∀(l:List AV) (vs:List Value),a8 w M l vs->(∀z∈l,ei es z) ->
  vs.length=l.length/\(vs.flatMap (fun u=>u.cells.toList)).length=es*l.length/\(∀u∈vs.flatMap (fun u=>u.cells.toList),one u/\lO u) /\
  ∀j,j<l.length->∃u,bH w M (l.getD j .any) u/\∀(cs:Array Value) (o:Nat),(∀q,q<es*l.length->cs[o+q]? = (vs.flatMap (fun u=>u.cells.toList))[q]?)->reads cs (o+es*j) es u
 | [],[],_,_=>⟨rfl,sm,sm,fun j e=>by simp at e⟩
 | a::l,v::vs,d,k=>by
  simp only[a8]at d;have n:=k a (fB ..);obtain⟨p,r,s⟩:=rT n d.1;obtain⟨t,x,y,A⟩:=iO l vs d.2 (fun z B=>k z (ee _ B));have c:v.cells.toList.length=es:=by simpa using p
  refine⟨by simp[t],by simp only[ef,CI,c,x,cK];rw[eB];omega,fun u b=>?_,fun j e=>?_⟩
  .simp only[ef,Jw]at b;rcases b with b|b
   .exact r u b
   .exact y u b
  .simp only[cK]at e
   cases j with
   | zero =>
    refine⟨v,by simpa using d.1,fun cs o f=>?_⟩
    rw[dM,cu];refine s cs o (fun q C=>?_);rw[f q (by rw[cK,eB];omega),ef,fO om]
    simp
   | succ j =>
    obtain⟨u,g,i⟩:=A j om;refine⟨u,by simpa using g,fun cs o f=>?_⟩
    have:=i cs (o+es) (fun q C=>by
     have m:=f (es+q) (by rw[cK,eB];omega)
     rw[ef,fC om,c,(om:es+q-es=q)]at m
     rw[<-m];congr 1;omega)
    rw[eB,(om:o+(es*j+es)=o+es+es*j)]
    exact this
 | [],_::_,h,_=>by simp[a8]at h
 | _::_,[],h,_=>by simp[a8]at h
def kP{cs:Array Value}{o:Nat}(h:reads cs o es u)(hsame:∀q,q<es->cs'[o+q]? = cs[o+q]?):reads cs' o es u:=by
 match es,h with
 | 1,h=>simp only[reads]at h ⊢;have:=hsame 0 om;simp only[cu]at this;exact⟨by rw[this];exact h.1,h.2⟩
 | 2,h =>
  simp only[reads]at h ⊢;obtain⟨x,y,e,a,b,c,d⟩:=h;have s0:=hsame 0 om;have s1:=hsame 1 om;simp only[cu]at s0;exact⟨x,y,e,a,b,by rw[s0];exact c,by rw[s1];exact d⟩
def qV(t:eA w S){b:Nat}{X:eo}(v:S b=some X)(l:List AV)(vs:List Value)(B:a8 w S.dom l vs)(C:∀z∈l,ei X.es z)(i:Nat)(D:i+l.length<=X.n) :
  ∃cs,w.heap[b]? = some (.cells cs X.ty (0,0))/\X.es*i+(vs.flatMap (fun u=>u.cells.toList)).length<=cs.size/\(∀u∈vs.flatMap (fun u=>u.cells.toList),one u) /\
   eA (fI w b (eO cs (X.es*i) (vs.flatMap (fun u=>u.cells.toList))) X.ty) (S.upd b { X with g:=ft X.g i l }) /\
   dA S.dom (S.upd b { X with g:=ft X.g i l }).dom w (fI w b (eO cs (X.es*i) (vs.flatMap (fun u=>u.cells.toList))) X.ty):=by
 obtain⟨cs,x,c,E,f⟩:=t b X v;obtain⟨H,m,A,F⟩:=iO l vs B C;have a:X.es*i+(vs.flatMap (fun u=>u.cells.toList)).length<=cs.size:=by
  rw[m,<-bW];exact bO (aM _ D) c
 refine⟨cs,x,a,fun u f=>(A u f).1,?_⟩;refine eA.write t v x (iE _ _ _) rfl (by rw[iE];exact c) (fun j o=>?_) (fun k y e=>?_)
 .show ∃u,reads _ (X.es*j) X.es u/\bH w S.dom (ft X.g i l j) u;unfold ft;by_cases d:i<=j/\j<i+l.length
  .rw[aj d];obtain⟨u,p,r⟩:=F (j-i) om;refine⟨u,?_,p⟩;have:=r (eO cs (X.es*i) (vs.flatMap (fun u=>u.cells.toList))) (X.es*i) (fun q G=>by
    rw[iP _ _ _ _ a,aj (by rw[m];omega)];congr 1;omega)
   rw[<-bW,(om:i+(j-i)=j)]at this
   exact this
  .rw[ah d];obtain⟨u,p,r⟩:=E j o;refine⟨u,kP p (fun q G=>?_),r⟩;rw[iP _ _ _ _ a,ah];rw[m];intro I;have s:j<i∨i+l.length<=j:=om
   rcases s with h|h
   .have:X.es*(j+1)<=X.es*i:=aM _ h;rw[eB]at this;omega
   .have:X.es*(i+l.length)<=X.es*j:=aM _ h;rw[bW]at this;omega
 .rw[iP _ _ _ _ a]at e;split at e
  .exact(A y (gO e)).2
  .exact f k y e
def JO(g:Nat->AV)(i:Nat)(y:AV):ft g i [y]=aQ g i y:=by
 funext j;simp only[ft,aQ,cK,iq];by_cases e:j=i
 .subst e;rw[aj om,aj rfl];simp
 .rw[ah om,ah e]
def xA{off t:Nat}{cs:Array Value}(h:w.heap[b]? = some (.cells cs ty (0,0)))(g:fF t=some (es,k))(v:Value)(j:v.cells.size=es*k)
  (a:off+v.cells.size<=cs.size) (l:∀u∈v.cells.toList,one u) :
  (Instr.storeAt t (.pointer (some ⟨b,off,ae⟩)) v).run ak w=.ok () (fI w b (eO cs off v.cells.toList) ty):=by
 obtain⟨c,_,_⟩:=rV g;obtain⟨i,d,m,n,o,p⟩:=zi c;have f:=kg ak (b:=b) (off:=off) (ty:=ty) v.cells.toList w cs 0 h (by simpa using a) l
 rw[cu]at f;have e:¬(v.cells.size≠i.size):=by rw[n,j];simp
 simp only[Instr.storeAt,Instr.sureAddr,pure_bind,storeVar,j9,df m,io];rw[ah e];simp[f]
def D3{K:St->Prop}(h:ti t x y S K){w:World}(r:eA w S){vx vy:Value}(s:bH w S.dom x vx)(m:bH w S.dom y vy) :
  ∃w' S',K S'/\eA w' S'/\dA S.dom S'.dom w w'/\(Instr.storeAt t vx vy).run ak w=.ok () w':=by
 cases x with
 | ptr es b i =>
  simp only[ti]at h
  cases n:S b with
  | none=>rw[n]at h;exact h.elim
  | some X =>
   rw[n]at h
   cases o:fF t with
   | none=>rw[o]at h;exact h.elim
   | some p =>
    obtain⟨es',k⟩:=p;rw[o]at h;obtain⟨rfl,rfl,v,c⟩:=h;simp only[bH]at s;subst s;by_cases d:k=1
    .subst d;rw[aj rfl]at c;obtain⟨cs,q,a,e,f,g⟩:=qV r n [y] [vy] (by simp only[a8];exact⟨m,trivial⟩) (fun z A=>by simp at A;subst A;exact c.1) i (by simpa using v)
     simp only[ef,Ti,Jx]at a e f g;rw[JO]at f g;refine⟨_,_,c.2,f,g,?_⟩;obtain⟨E,_,_⟩:=rT c.1 m;exact xA q o vy (by rw[E,su]) (by simpa using a) e
    .rw[ah d]at c
     cases y with
     | agg l =>
      simp only at c;obtain⟨B,j,c⟩:=c;simp only[bH]at m;obtain⟨vs,rfl,C⟩:=m;obtain⟨cs,q,a,e,f,g⟩:=qV r n l vs C j i (by rw[B];exact v)
      refine⟨_,_,c,f,g,?_⟩;obtain⟨_,D,_,_⟩:=iO l vs C j;generalize vs.flatMap (fun u=>u.cells.toList)=fl at a e D ⊢;exact xA (off:=X.es*i) q o (.agg fl.toArray) (by show fl.toArray.size=_;rw[co,D,B]) (by show _+fl.toArray.size<=_;rw[co];exact a) e
     | _=>exact c.elim
 | _=>exact h.elim

def ew.zero(w:World):ew w w.heap.size (.agg #[.bool false,.slice ae 0 0]) 0 :=
 ⟨false,ae,0,0,[],rfl,ag _,⟨rfl,by simp[mV],fun h=>absurd h om⟩,by intro x a;simp at a,by simp[bC,sg]⟩
def fX:TypeId->Option (Nat×AV×Value)
 | 2=>some (1,.int .i64 0,.int .i64 0)
 | 3=>some (1,.int .i64 0,.int .i64 0)
 | 4=>some (1,.bool false,.bool false)
 | 28=>some (1,.nil,.slice ae 0 0)
 | 29=>some (1,.nil,.slice ae 0 0)
 | 52=>some (1,.nil,.slice ae 0 0)
 | 59=>some (1,.nil,.slice ae 0 0)
 | 50=>some (2,.big 0,.agg #[.bool false,.slice ae 0 0])
 | _=>ae
def mi(P:Program)(t:TypeId):Option (Value×Nat×Nat):=(P.info? t).bind fun i=>i.zero.map fun z=>(z,i.size,i.bytes)
def o7{t:Nat}(h:fX t=some (es,x,z)):∃i,ak.info? t=some i/\i.zero=some z/\i.size=es/\i.bytes<=32/\0<es/\z.cells.size=es/\ei es x/\∀w M,bH w M x z:=by
 have key:∀(z':Value) (s b:Nat),mi ak t=some (z',s,b)->b<=32->∃i,ak.info? t=some i/\i.zero=some z'/\i.size=s/\i.bytes<=32:=by
  intro z' s b f j;unfold mi at f
  cases g:ak.info? t with
  | none=>rw[g]at f;simp at f
  | some i =>
   rw[g]at f;simp only[dQ,eX,jX]at f;obtain⟨z2,a,c,d,e⟩:=f;exact⟨i,rfl,by rw[a,c],d,om⟩
 unfold fX at h;split at h
 .cases h;obtain⟨i,a,c,d,e⟩:=key (.int .i64 0) 1 8 kr om;exact⟨i,a,c,d,e,om,rfl,by simp[ei],fun w M=>by simp[bH]⟩
 .cases h;obtain⟨i,a,c,d,e⟩:=key (.int .i64 0) 1 8 kr om;exact⟨i,a,c,d,e,om,rfl,by simp[ei],fun w M=>by simp[bH]⟩
 .cases h;obtain⟨i,a,c,d,e⟩:=key (.bool false) 1 1 kr om;exact⟨i,a,c,d,e,om,rfl,by simp[ei],fun w M=>by simp[bH]⟩
 .cases h;obtain⟨i,a,c,d,e⟩:=key (.slice ae 0 0) 1 24 kr om;exact⟨i,a,c,d,e,om,rfl,by simp[ei],fun w M=>by simp[bH]⟩
 .cases h;obtain⟨i,a,c,d,e⟩:=key (.slice ae 0 0) 1 24 kr om;exact⟨i,a,c,d,e,om,rfl,by simp[ei],fun w M=>by simp[bH]⟩
 .cases h;obtain⟨i,a,c,d,e⟩:=key (.slice ae 0 0) 1 24 kr om;exact⟨i,a,c,d,e,om,rfl,by simp[ei],fun w M=>by simp[bH]⟩
 .cases h;obtain⟨i,a,c,d,e⟩:=key (.slice ae 0 0) 1 24 kr om;exact⟨i,a,c,d,e,om,rfl,by simp[ei],fun w M=>by simp[bH]⟩
 .cases h;obtain⟨i,a,c,d,e⟩:=key (.agg #[.bool false,.slice ae 0 0]) 2 32 kr om;exact⟨i,a,c,d,e,om,rfl,by simp[ei],fun w M=>by simp only[bH];exact ew.zero w⟩
 .cases h
def lV(c:eA w S){es:Nat}(t:TypeId)(l:List AV)(vs:List Value)(d:a8 w S.dom l vs)(e:∀z∈l,ei es z) :
  S w.heap.size=ae/\eA (w.alloc (.cells (vs.flatMap (fun u=>u.cells.toList)).toArray t)) (S.upd w.heap.size ⟨t,es,l.length,fun j=>l.getD j .any⟩) /\
   dA S.dom (S.upd w.heap.size ⟨t,es,l.length,fun j=>l.getD j .any⟩).dom w (w.alloc (.cells (vs.flatMap (fun u=>u.cells.toList)).toArray t))/\(vs.flatMap (fun u=>u.cells.toList)).length=es*l.length:=by
 obtain⟨n,a,f,g⟩:=iO l vs d e;have:=eA.new c (X:=⟨t,es,l.length,fun j=>l.getD j .any⟩) (cs:=(vs.flatMap (fun u=>u.cells.toList)).toArray) (by simp only[co];rw[a];exact ag _) (fun j h=>by
   obtain⟨u,i,m⟩:=g j h;refine⟨u,?_,i⟩;have:=m (vs.flatMap (fun u=>u.cells.toList)).toArray 0 (fun q _=>by simp)
   simpa using this) (fun k y b=>by
   rw[fu]at b;exact(f y (gO b)).2)
 exact⟨this.1,this.2.1,this.2.2,a⟩
theorem ku{w:World}{M:Nat->Prop}{x:AV}{v:Value}(h:bH w M x v):∀n,a8 w M (cn n x) (cn n v)
 | 0=>by simp[a8]
 | n+1=>by simp only[kc,a8];exact⟨h,ku h n⟩
def eA.reg{Y:eo}(h:eA w (S.upd b X))(m:Y.ty=X.ty)(f:Y.es=X.es)(i:Y.n=X.n)(o:∀j,j<X.n->Y.g j=X.g j):eA w (S.upd b Y)/\(S.upd b Y).dom=(S.upd b X).dom:=by
 have l:(S.upd b Y).dom=(S.upd b X).dom:=by
  funext k;simp only[St.dom,St.upd];by_cases e:k=b<;>simp[e]
 refine⟨⟨?_,h.gl,fun k Z a=>?_⟩,l⟩
 .have c:=h.z;simp only[St.upd]at c ⊢;by_cases e:0=b
  .rw[aj e]at c;cases c
  .rw[ah e]at c ⊢;exact c
 rw[l];simp only[St.upd]at a;by_cases e:k=b
 .rw[aj e]at a
  cases a
  obtain⟨cs,p,q,r,s⟩:=h k X (by simp[St.upd,e])
  refine⟨cs,by rw[m];exact p,by rw[f,i];exact q,fun j d=>?_,s⟩
  rw[i]at d;obtain⟨u,t,v⟩:=r j d;rw[f,o j d];exact⟨u,t,v⟩
 .rw[ah e]at a;exact h k Z (by simp[St.upd,e,a])
def Ab(h:j<n)(x d:AV):(cn n x).getD j d=x:=by simp[dh,h]
def oT(t:TypeId)(S:St)(K:AV->St->Prop):Prop:=match fX t with
 | some (es,x,_)=>∀b,S b=ae->K (.ptr es b 0) (S.upd b ⟨t,es,1,fun _=>x⟩)
 | ae=>(match t with
  | 167=>∀b,S b=ae->K (.ptr 2 b 0) (S.upd b ⟨167,2,2,fun _=>.big 0⟩)
  | 197=>∀b,S b=ae->K (.ptr 2 b 0) (S.upd b ⟨197,2,7,fun _=>.big 0⟩)
  | 218=>∀b,S b=ae->K (.ptr 1 b 0) (S.upd b ⟨218,1,2,fun j=>if j=0 then .nil else .int .i64 0⟩)
  | 202=>∀b,S b=ae->K (.ptr 1 b 0) (S.upd b ⟨202,1,2,fun _=>.int .u64 0⟩)
  | _=>False)
def Cb(a:ak.info? t=some i)(b:i.zero=some z)(w:World) :
  (Instr.alloc t true (.tuple #[])).run ak w=.ok (.pointer (some ⟨w.heap.size,0,ae⟩)) (w.alloc (.cells z.cells t)):=by
 simp[Instr.alloc,zeroValue,typeInfo,a,b,newVar,newRow]
def nY(a:eA w S){t es:Nat}(l:List AV)(vs:List Value){i:TypeInfo}{z:Value}(c:ak.info? t=some i)(d:i.zero=some z)(e:z.cells=(vs.flatMap (fun u=>u.cells.toList)).toArray)
  (f:a8 w S.dom l vs) (h:∀y∈l,ei es y) (Y:eo) (k:Y.ty=t) (m:Y.es=es) (o:Y.n=l.length) (p:∀j,j<l.length->Y.g j=l.getD j .any) {K:AV->St->Prop} (q:∀b,S b=ae->K (.ptr es b 0) (S.upd b Y)) :
  Ei (Instr.alloc t true (.tuple #[])) w S K:=by
 obtain⟨r,s,v,_⟩:=lV a t l vs f h;obtain⟨x,A⟩:=eA.reg s (Y:=Y) k m o p;refine⟨_,.pointer (some ⟨w.heap.size,0,ae⟩),_,_,q _ r,by simp[bH],x,by rw[A];exact v,?_⟩
 rw[Cb c d,e]
def D7{K:AV->St->Prop}(h:oT t S K){w:World}(g:eA w S):Ei (Instr.alloc t true (.tuple #[])) w S K:=by
 have key:∀(z':Value) (s b:Nat),mi ak t=some (z',s,b)->∃i,ak.info? t=some i/\i.zero=some z':=by
  intro z' s b f;unfold mi at f
  cases l:ak.info? t with
  | none=>rw[l]at f;simp at f
  | some i =>
   rw[l]at f;simp only[dQ,eX,jX]at f;obtain⟨z2,d,e,m,n⟩:=f;exact⟨i,rfl,by rw[d,e]⟩
 unfold oT at h
 cases k:fX t with
 | some p =>
  obtain⟨es,x,z⟩:=p;rw[k]at h;obtain⟨i,d,e,m,n,r,u,o,q⟩:=o7 k;exact nY g [x] [z] d e sm (by simp only[a8];exact⟨q _ _,trivial⟩) (fun y a=>by simp at a;subst a;exact o) ⟨t,es,1,fun _=>x⟩ rfl rfl rfl (fun j c=>by simp at c;subst c;rfl) h
 | none =>
  rw[k]at h;have zb:∀M,bH w M (.big 0) (.agg #[.bool false,.slice ae 0 0]):=fun M=>by simp only[bH];exact ew.zero w
  simp only at h;split at h
  .obtain⟨i,d,e⟩:=key (.agg #[.bool false,.slice ae 0 0,.bool false,.slice ae 0 0]) 4 64 kr
   exact nY g (cn 2 (.big 0)) (cn 2 (.agg #[.bool false,.slice ae 0 0])) d e rfl (ku (zb _) 2) (fun y a=>by rw[iH a];simp[ei]) ⟨167,2,2,fun _=>.big 0⟩ rfl rfl rfl
    (fun j c=>(Ab (by rw[ob]at c;exact c) _ _).symm) h
  .obtain⟨i,d,e⟩:=key (.agg (cn 7 [.bool false,.slice ae 0 0]).flatten.toArray) 14 224 kr
   exact nY g (cn 7 (.big 0)) (cn 7 (.agg #[.bool false,.slice ae 0 0])) d e rfl (ku (zb _) 7) (fun y a=>by rw[iH a];simp[ei]) ⟨197,2,7,fun _=>.big 0⟩ rfl rfl rfl
    (fun j c=>(Ab (by rw[ob]at c;exact c) _ _).symm) h
  .obtain⟨i,d,e⟩:=key (.agg #[.slice ae 0 0,.int .i64 0]) 2 32 kr
   exact nY g [.nil,.int .i64 0] [.slice ae 0 0,.int .i64 0] d e rfl (by simp[a8,bH]) (fun y a=>by simp at a;rcases a with rfl|rfl<;>simp[ei]) ⟨218,1,2,fun j=>if j=0 then .nil else .int .i64 0⟩ rfl rfl rfl
    (fun j c=>by match j with
     | 0=>rfl
     | 1=>rfl
     | j+2=>exact absurd c (by simp only[cK,iq];omega)) h
  .obtain⟨i,d,e⟩:=key (.agg #[.int .u64 0,.int .u64 0]) 2 16 kr
   exact nY g [.int .u64 0,.int .u64 0] [.int .u64 0,.int .u64 0] d e rfl (by simp[a8,bH]) (fun y a=>by simp at a;subst a;simp[ei]) ⟨202,1,2,fun _=>.int .u64 0⟩ rfl rfl rfl
    (fun j c=>by match j with
     | 0=>rfl
     | 1=>rfl
     | j+2=>exact absurd c (by simp only[cK,iq];omega)) h
  .exact h.elim

def kJ(t:TypeId)(x:AV)(S:St)(K:AV->St->Prop):Prop:=match fF t with
 | some (es,k)=>if k=1 then ei es x/\∀b,S b=ae->K (.ptr es b 0) (S.upd b ⟨t,es,1,fun _=>x⟩)else(match x with
  | .agg l=>l.length=k/\(∀z∈l,ei es z)/\∀b,S b=ae->K (.ptr es b 0) (S.upd b ⟨t,es,k,fun j=>l.getD j .any⟩)
  | _=>False)
 | ae=>False
def IN(t:TypeId)(v:Value)(w:World):(Instr.box t v).run ak w=.ok (.pointer (some ⟨w.heap.size,0,ae⟩)) (w.alloc (.cells v.cells t)):=by
 simp[Instr.box,newVar,newRow]
def H8{t:TypeId}{x:AV}{S:St}{K:AV->St->Prop}(h:kJ t x S K){w:World}(g:eA w S){v:Value}(d:bH w S.dom x v):Ei (Instr.box t v) w S K:=by
 unfold kJ at h
 cases i:fF t with
 | none=>rw[i]at h;exact h.elim
 | some p =>
  obtain⟨es,k⟩:=p;rw[i]at h;simp only at h;by_cases a:k=1
  .rw[aj a]at h;obtain⟨e,b,c,_⟩:=lV g t [x] [v] (by simp only[a8];exact⟨d,trivial⟩) (fun z m=>by simp at m;subst m;exact h.1)
   obtain⟨o,q⟩:=eA.reg b (Y:=⟨t,es,1,fun _=>x⟩) rfl rfl rfl (fun j n=>by simp at n;subst n;rfl)
   refine⟨_,.pointer (some ⟨w.heap.size,0,ae⟩),_,_,h.2 _ e,by simp[bH],o,by rw[q];exact c,?_⟩
   rw[IN];simp
  .rw[ah a]at h
   cases x with
   | agg l =>
    simp only at h;obtain⟨r,f,s⟩:=h;simp only[bH]at d;obtain⟨vs,rfl,u⟩:=d;obtain⟨e,b,c,_⟩:=lV g t l vs u f;rw[r]at b c;exact⟨_,.pointer (some ⟨w.heap.size,0,ae⟩),_,_,s _ e,by simp[bH],b,c,IN ..⟩
   | _=>exact h.elim
def dO:TypeId->Option TypeId
 | 22=>some 41
 | 28=>some 29
 | 29=>some 2
 | 52=>some 59
 | 59=>some 50
 | 146=>some 3
 | 192=>some 52
 | 216=>some 59
 | _=>ae
def cb:TypeId->Nat
 | 50=>2
 | _=>1
def eChk(P:Program)(t:TypeId):Option (TypeId×Nat):=(P.underlying t).bind fun
 | .slice e=>(P.info? e).map fun i=>(e,i.size)
 | _=>ae
def ju{e:TypeId}(h:dO t=some e):ak.underlying t=some (.slice e)/\∃i,ak.info? e=some i/\i.size=cb e:=by
 have key:∀s,eChk ak t=some (e,s)->ak.underlying t=some (.slice e)/\∃i,ak.info? e=some i/\i.size=s:=by
  intro s a;unfold eChk at a
  cases b:ak.underlying t with
  | none=>rw[b]at a;simp at a
  | some d =>
   rw[b]at a
   cases d<;>simp only[dQ,eX,jX,reduceCtorEq]at a
   obtain⟨i,c,rfl,f⟩:=a;exact⟨rfl,i,c,f⟩
 unfold dO at h;split at h<;>first
  | (cases h;exact key _ kr)
  | cases h
def tj(t:TypeId)(x i:AV)(K:AV->Prop):Prop:=match dO t,x,i with
 | some e,.sl es b off len,.int _ n=>es=cb e/\(0<=n/\n<(len:Int))/\K (.ptr es b (off+n.toNat))
 | some e,.lst es len g,.int _ n=>es=cb e/\(0<=n/\n<(len:Int))/\K (.pat es (g n.toNat))
 | ae,.ptr es b k,.int _ n=>(es=2/\t=195)/\(0<=n/\n<2)/\K (.ptr 2 b (k+n.toNat))
 | _,_,_=>False
def xB{e:TypeId}(a:dO t=some e)(w:World)(b off len cap:Nat)(k:IntKind)(n:Int)(c:0<=n)(d:n<(len:Int)) :
  (Instr.indexAt t (.slice (some ⟨b,off,ae⟩) len cap) (.int k n)).run ak w=.ok (.pointer (some ⟨b,off+n.toNat*cb e,ae⟩)) w:=by
 obtain⟨f,i,g,h⟩:=ju a;have j:0<=n/\n<(len:Int):=⟨c,d⟩;simp[Instr.indexAt,asIntOf,bM f,df g,h,iR,j]
def uQ(h:tj t x y K){w:World}{M:Nat->Prop}{vx vy:Value}(a:bH w M x vx)(d:bH w M y vy) :
  ∃z v,K z/\bH w M z v/\(Instr.indexAt t vx vy).run ak w=.ok v w:=by
 unfold tj at h;split at h
 .rename_i e es b off len k n m;obtain⟨rfl,⟨f,j⟩,l⟩:=h;simp only[bH]at a d;obtain⟨cap,cs,ty,fr,rfl,_,_,_⟩:=a;subst d;refine⟨_,_,l,?_,xB m w b _ len cap k n f j⟩;simp only[bH];rw[bW,aA (cb e) n.toNat]
 .rename_i e es len g k n m;obtain⟨rfl,⟨f,j⟩,l⟩:=h;simp only[bH]at a d;obtain⟨A,c,rfl,p,s⟩:=a;subst d;obtain⟨b,off,rfl,o,B,C⟩:=s om;obtain⟨u,q,r⟩:=C n.toNat om;refine⟨_,_,l,?_,xB m w b _ len c k n f j⟩;simp only[bH];exact⟨b,_,u,by rw[aA],o,B,by rw[aA];rw[aA]at q;exact q,r⟩
 .rename_i es b k kk n m;obtain⟨⟨rfl,rfl⟩,⟨f,j⟩,l⟩:=h;simp only[bH]at a d;subst a d;obtain⟨r,i,D,E⟩:=ju (t:=59) (e:=50) rfl;refine⟨_,.pointer (some ⟨b,2*k+n.toNat*2,ae⟩),l,?_,?_⟩
  .simp only[bH];rw[bW,aA n.toNat]
  .have p:0<=n/\n<2:=⟨f,j⟩;simp[Instr.indexAt,Instr.sureAddr,asIntOf,bM xS,df D,E,iR,p,cb]
 .exact h.elim
def lP(t:TypeId)(x y:AV)(S:St)(K:AV->St->Prop):Prop:=match dO t,x with
 | some e,.int _ n=>(match fX e with
  | some (es,z,_)=>x=y/\es=cb e/\(0<=n/\n<=1099511627776)/\∀b,S b=ae->K (.sl es b 0 n.toNat) (S.upd b ⟨e,es,n.toNat,fun _=>z⟩)
  | ae=>False)
 | _,_=>False
def mT(z:Value)(n:Nat):madeCells z.cells (n*z.cells.size)=((cn n z).flatMap (fun u=>u.cells.toList)).toArray:=by
 apply qU;intro i;simp only[madeCells,SW,fu]
 induction n generalizing i with
 | zero=>simp
 | succ n ih =>
  simp only[kc,ef];by_cases h:i<z.cells.size
  .rw[fO (by simpa using h)]
   have a:i<(n+1)*z.cells.size:=by rw[cg];omega
   simp[a,dR h,h]
  .rw[fC (by simp;omega)]
   have:=ih (i-z.cells.size);simp only[SM];rw[<-this];by_cases a:i<(n+1)*z.cells.size
   .have b:i-z.cells.size<n*z.cells.size:=by rw[cg]at a;omega
    have c:i%z.cells.size=(i-z.cells.size)%z.cells.size:=by
     rw[Nat.mod_eq_sub_mod om]
    simp[a,b,c]
   .have b:¬i-z.cells.size<n*z.cells.size:=by rw[cg]at a;omega
    simp[a,b]
def FR{K:AV->St->Prop}(h:lP t x y S K){w:World}(s:eA w S){vx vy:Value}(d:bH w S.dom x vx)(b:bH w S.dom y vy):Ei (Instr.makeSlice t vx vy) w S K:=by
 unfold lP at h;split at h
 .rename_i e k n u
  cases c:fX e with
  | none=>rw[c]at h;exact h.elim
  | some p =>
   obtain⟨es,z,zv⟩:=p;rw[c]at h;obtain⟨rfl,rfl,⟨f,M⟩,v⟩:=h;obtain⟨A,i,g,B⟩:=ju u;obtain⟨i',l,C,D,N,O,E,F,G⟩:=o7 c;rw[g]at l;cases l;simp only[bH]at d b;subst d b;have H:(i.bytes:Int)*n<=281474976710656:=by
    have Q:(i.bytes:Int)*n<=32*n:=bK om f;omega
   have a:=run_make (P:=ak) w t e i zv A g C k k n n f (mS _) H om;obtain⟨I,m,o,q⟩:=lV s e (cn n.toNat z) (cn n.toNat zv) (ku (G _ _) _) (fun y b=>by rw[iH b];exact F)
   rw[ob]at m o q;obtain⟨J,L⟩:=eA.reg m (Y:=⟨e,cb e,n.toNat,fun _=>z⟩) rfl rfl rfl (fun j r=>by simp only at r;simp[dh,r])
   rw[D,<-E,mT zv n.toNat]at a;refine⟨_,_,_,_,v _ I,?_,J,by rw[L];exact o,a⟩
   simp only[bH];refine⟨n.toNat,_,e,(0,0),by rw[dM],ag _,jB w _,?_⟩
   simp only[co];rw[q];simp
 .exact h.elim
def gC:TypeId->Nat->Option (Nat×Nat)
 | 24,0=>some (1,0)|24,1=>some (1,1)|24,2=>some (1,2)|24,3=>some (1,3)
 | 27,0=>some (1,0)|27,1=>some (1,4)|27,2=>some (1,5)
 | 107,0=>some (1,0)|107,1=>some (1,1)
 | 160,0=>some (1,0)|160,1=>some (1,1)|160,2=>some (1,2)|160,3=>some (1,3)
 | 167,0=>some (2,0)|167,1=>some (2,1)
 | 183,0=>some (1,0)|183,1=>some (1,1)
 | 197,0=>some (2,0)|197,1=>some (2,1)|197,2=>some (2,2)|197,3=>some (2,3)|197,4=>some (2,5)
 | 218,0=>some (1,0)|218,1=>some (1,1)
 | _,_=>ae
def Kg(P:Program)(t f:Nat):Option (Nat×Bool):=(P.underlying t).bind fun
 | .struct fs=>(fs[f]?).bind fun fl=>(P.info? fl.type).map fun i=>(fl.offset,i.size==0)
 | _=>ae
def Kf{t:Nat}(h:gC t f=some (es,k)):Kg ak t f=some (es*k,false):=by
 unfold gC at h;split at h<;>first
  | (cases h;kernel_rfl)
  | cases h
def MA:Kg ak 50 0=some (0,false):=by kernel_rfl
def Mz:Kg ak 50 1=some (1,false):=by kernel_rfl
def tn(t:TypeId)(x:AV)(f:Nat)(K:AV->Prop):Prop:=match gC t f,x with
 | some (es',k),.ptr es b i=>es'=es/\K (.ptr es b (i+k))
 | ae,.ptr es b i=>(es=2/\t=50/\f<2)/\K (.fp b i f)
 | _,_=>False
def uR(h:tn t x f K){w:World}{M:Nat->Prop}{vx:Value}(g:bH w M x vx) :
  ∃z v,K z/\bH w M z v/\(Instr.fieldAt t vx f).run ak w=.ok v w:=by
 unfold tn at h;split at h
 .rename_i es' k es b i o;obtain⟨rfl,j⟩:=h;simp only[bH]at g;subst g;have a:=Kf o;unfold Kg at a
  cases e:ak.underlying t with
  | none=>rw[e]at a;simp at a
  | some d =>
   rw[e]at a
   cases d<;>simp only[dQ,reduceCtorEq]at a
   rename_i fs
   cases c:fs[f]? with
   | none=>rw[c]at a;simp at a
   | some fl =>
    rw[c]at a;simp only[dQ,eX,jX,fU]at a;obtain⟨ii,l,m,n⟩:=a;refine⟨_,.pointer (some ⟨b,es'*i+es'*k,ae⟩),j,by simp[bH,bW],?_⟩
    simp[Instr.fieldAt,bM e,c,Instr.sureAddr,fieldPlace,df l,n,iR,m]
 .rename_i es b i o;obtain⟨⟨rfl,rfl,p⟩,j⟩:=h;simp only[bH]at g;subst g;have a:Kg ak 50 f=some (f,false):=by
   have q:f=0∨f=1:=om
   rcases q with rfl|rfl
   .exact MA
   .exact Mz
  unfold Kg at a
  cases e:ak.underlying 50 with
  | none=>rw[e]at a;simp at a
  | some d =>
   rw[e]at a
   cases d<;>simp only[dQ,reduceCtorEq]at a
   rename_i fs
   cases c:fs[f]? with
   | none=>rw[c]at a;simp at a
   | some fl =>
    rw[c]at a;simp only[dQ,eX,jX,fU]at a;obtain⟨ii,l,m,n⟩:=a;refine⟨_,.pointer (some ⟨b,2*i+f,ae⟩),j,by simp[bH],?_⟩
    simp[Instr.fieldAt,bM e,c,Instr.sureAddr,fieldPlace,df l,n,iR,m]
 .exact h.elim

def DD(S:St):AV->Option (Nat×Nat×(Nat->AV)×Option Nat)
 | .sl es b off len=>(S b).bind fun X=>if X.es=es/\off+len<=X.n then some (es,len,fun j=>X.g (off+j),some b)else ae
 | .lst es n g=>some (es,n,g,ae)
 | _=>ae
theorem xt(g:Nat->AV)(o:Nat):∀k i,dZ (fun j=>g (o+j)) i k=dZ g (o+i) k
 | 0,_=>rfl
 | k+1,i=>by simp only[dZ];rw[xt g o k (i+1)];rfl
theorem ky(g:Nat->AV):∀k i,(dZ g i k).length=k
 | 0,_=>rfl
 | k+1,i=>by simp[dZ,ky g k]
theorem sR(g:Nat->AV):∀k i j,j<k->(dZ g i k).getD j .any=g (i+j)
 | 0,_,_,h=>om
 | k+1,i,0,_=>by simp[dZ]
 | k+1,i,j+1,h=>by
  have:=sR g k (i+1) j om;simp only[dZ,bJ];rw[this];congr 1;omega
theorem ph(g:Nat->AV):∀k i z,z∈dZ g i k->∃j,j<k/\z=g (i+j)
 | 0,_,_,h=>by simp[dZ]at h
 | k+1,i,z,h=>by
  simp only[dZ,BJ]at h;rcases h with rfl|h
  .exact⟨0,om,rfl⟩
  .obtain⟨j,b,a⟩:=ph g k (i+1) z h;exact⟨j+1,om,by rw[a];congr 1;omega⟩
theorem xC{w:World}{M:Nat->Prop}{b off es:Nat}{g:Nat->AV}{n:Nat}(c:∀j,j<n->∃u,wb w b (off+es*j) es u/\bH w M (g j) u) :
  ∀(k i:Nat),i+k<=n->∃vs:List Value,a8 w M (dZ g i k) vs/\(vs.flatMap (fun u=>u.cells.toList)).length=es*k/\∀j,j<es*k->w.cell? ⟨b,off+es*i+j,ae⟩=(vs.flatMap (fun u=>u.cells.toList))[j]?
 | 0,i,_=>⟨[],by simp[dZ,a8],sm,fun j c=>by simp at c⟩
 | k+1,i,q=>by
  obtain⟨u,⟨cs,ty,fr,h,d⟩,l⟩:=c i om;obtain⟨vs,f,m,o⟩:=xC c k (i+1) om;have a:u.cells.toList.length=es/\∀j,j<es->w.cell? ⟨b,off+es*i+j,ae⟩=u.cells.toList[j]?:=by
   match es,d with
   | 1,d =>
    simp only[reads]at d;rw[rY d.2];exact⟨rfl,fun j c=>by
     obtain rfl:j=0:=om
     rw[oA h];simpa using d.1⟩
   | 2,d =>
    simp only[reads]at d;obtain⟨x,y,rfl,_,_,p,f⟩:=d;refine⟨rfl,fun j c=>?_⟩;rw[oA h]
    match j with
    | 0=>simpa [Value.cells]using p
    | 1=>simpa [Value.cells]using f
    | j+2=>omega
  refine⟨u::vs,by simp only[dZ,a8];exact⟨l,f⟩,by simp only[ef,CI,a.1,m];rw[eB];omega,fun j c=>?_⟩
  simp only[ef];by_cases e:j<es
  .rw[fO (by rw[a.1];exact e)];exact a.2 j e
  .rw[fC (by rw[a.1];omega),a.1,<-o (j-es) (by rw[eB]at c;omega)]
   congr 2;rw[eB];omega
def Cn(r:eA w S){x:AV}{v:Value}(e:bH w S.dom x v){es m:Nat}{h:Nat->AV}{o:Option Nat}(a:DD S x=some (es,m,h,o))(s:0<m) :
  ∃b off c vs,v=.slice (some ⟨b,off,ae⟩) m c/\a8 w S.dom (dZ h 0 m) vs/\(vs.flatMap (fun u=>u.cells.toList)).length=es*m/\∀j,j<es*m->w.cell? ⟨b,off+j,ae⟩=(vs.flatMap (fun u=>u.cells.toList))[j]?:=by
 cases x with
 | sl es' b off len =>
  simp only[DD]at a
  cases k:S b with
  | none=>rw[k]at a;simp at a
  | some X =>
   rw[k]at a;simp only[dQ]at a;split at a
   .rename_i l;simp only[fW,jX]at a;obtain⟨rfl,rfl,rfl,_⟩:=a;simp only[bH]at e;obtain⟨cap,cs',ty',fr',rfl,_,_,_⟩:=e;obtain⟨cs,p,t,d,_⟩:=r b X k;obtain⟨vs,q,f,i⟩:=nN d len off l.2;rw[l.1]at f i;refine⟨b,es'*off,cap,vs,rfl,by rw[xt,cu];exact q,f,fun j d=>?_⟩
    rw[oA p];exact i j d
   .cases a
 | lst es' n g =>
  simp only[DD,fW,jX]at a;obtain⟨rfl,rfl,rfl,_⟩:=a;simp only[bH]at e;obtain⟨A,c,rfl,l,p⟩:=e;obtain⟨b,off,rfl,_,_,d⟩:=p s;obtain⟨vs,q,f,i⟩:=xC d n 0 om;exact⟨b,off,c,vs,rfl,q,f,fun j d=>by have:=i j d;simpa using this⟩
 | _=>simp[DD]at a
def pC(g:Nat->AV)(len m:Nat)(h:Nat->AV):Nat->AV:=if m=1 then aQ g len (h 0)else fun j=>if j<len then g j else h (j-len)
def DY(a:j<len):pC g len m h j=g j:=by
 unfold pC;split
 .simp only[aQ];rw[ah om]
 .simp only;rw[aj a]
def yK(a:len<=j)(b:j<len+m):pC g len m h j=h (j-len):=by
 unfold pC;split
 .simp only[aQ];rw[aj om];congr 1;omega
 .simp only;rw[ah om]
def St.del(S:St)(b:Nat):St:=fun k=>if k=b then ae else S k
def gD(t t':TypeId)(s x:AV)(S:St)(K:AV->St->Prop):Prop:=match dO t with
 | some e=>t=t'/\(fX e).isSome=true/\(match DD S x with
  | some (es,m,h,o)=>es=cb e/\0<m/\(∀j,j<m->ei es (h j))/\(match s with
   | .nil=>m<=1048576/\∀b,S b=ae->K (.sl es b 0 m) (S.upd b ⟨e,es,m,h⟩)
   | .sl es' b off len=>(match S b with
    | some X=>es'=es/\off=0/\X.ty=e/\X.es=es/\X.n=len/\len+m<=1048576/\o≠some b /\
     ∀b',(b'=b∨S b'=ae)->K (.sl es b' 0 (len+m)) ((S.del b).upd b' ⟨e,es,len+m,pC X.g len m h⟩)
    | ae=>False)
   | _=>False)
  | ae=>False)
 | ae=>False
def oJ(h:ei es x)(d:bH w M x z)(n k:Nat)(y:Value)(b:(Builtin.zeroCells z.cells n)[k]? = some y):lO y:=by
 obtain⟨g,e,_⟩:=rT h d;simp only[Builtin.zeroCells,SW,eX]at b;obtain⟨i,c,rfl⟩:=b;by_cases f:z.cells.size=0
 .rw[f]at c;simp at c
 .have a:i%z.cells.size<z.cells.size:=di _ om;rw[getElem!_pos z.cells _ a];exact(e _ sm).2
def dA.drew(M:Nat->Prop)(w:World):dA M M w w.drew:=⟨rfl,rfl,rfl,ag _,fun _ _ _=>rfl,fun _ cs _ _ h=>⟨cs,h,rfl⟩,fun _ _ h=>h⟩
def eA.drew(h:eA w S):eA w.drew S:=⟨h.z,h.grow (dA.drew _ w),fun b X a=>by
 obtain⟨cs,c,d,e,f⟩:=h b X a;exact⟨cs,c,d,fun j g=>by obtain⟨u,i,k⟩:=e j g;exact⟨u,i,bH.grow h.noU (dA.drew _ w) _ _ k⟩,f⟩⟩
def eA.less(h:eA w S)(a:∀b X,S' b=some X->S b=some X):eA w S'/\∀k,S'.dom k->S.dom k:=by
 have c:∀k,S'.dom k->S.dom k:=fun k d=>by
  simp only[St.dom]at d ⊢
  cases e:S' k with
  | none=>exact absurd e d
  | some X=>rw[a k X e];simp
 have f:dA S.dom S'.dom w w:=(dA.refl S.dom w).weaken c;refine⟨⟨?_,h.gl,fun b X g=>?_⟩,c⟩
 .cases e:S' 0 with
  | none=>rfl
  | some X=>have:=a 0 X e;rw[h.z]at this;cases this
 obtain⟨cs,i,l,m,n⟩:=h b X (a b X g);exact⟨cs,i,l,fun j o=>by obtain⟨u,p,q⟩:=m j o;exact⟨u,p,bH.grow h.noU f _ _ q⟩,n⟩
def FA(S:St)(b:Nat):∀k X,S.del b k=some X->S k=some X:=by
 intro k X h;simp only[St.del]at h;split at h
 .cases h
 .exact h

def yT{e:TypeId}(h:(fX e).isSome=true):∃x z,fX e=some (cb e,x,z):=by
 unfold fX at h ⊢;split at h<;>first|exact⟨_,_,rfl⟩|cases h
def IA(S:St)(b:Nat)(X:eo):(S.del b).upd b X=S.upd b X:=by
 funext k;simp only[St.del,St.upd];split<;>rfl
def nI(z:Array Value)(n:Nat):(Builtin.zeroCells z n).size=n*z.size:=by simp[Builtin.zeroCells]
def lF{cs:Array Value}
  (a:∀j,j<len->∃u,reads cs (es*j) es u/\bH w M (g j) u) (i:a8 w M (dZ h 0 m) vs) (d:∀j,j<m->ei es (h j))
  (b:∀q,q<es*m->cs[es*len+q]? = (vs.flatMap (fun u=>u.cells.toList))[q]?) :
  ∀j,j<len+m->∃u,reads cs (es*j) es u/\bH w M (pC g len m h j) u:=by
 intro j l;by_cases c:j<len
 .rw[DY c];exact a j c
 .rw[yK om l];obtain⟨_,_,_,n⟩:=iO (es:=es) (dZ h 0 m) vs i (fun z o=>by
   obtain⟨k,p,rfl⟩:=ph h m 0 z o;rw[aJ];exact d k p)
  obtain⟨u,e,r⟩:=n (j-len) (by rw[ky];omega)
  rw[sR _ _ _ _ om,aJ]at e;refine⟨u,?_,e⟩;have:=r cs (es*len) (fun q f=>b q (by rw[ky]at f;exact f))
  rw[<-bW,(om:len+(j-len)=j)]at this
  exact this
def BB{K:AV->St->Prop}(h:gD t t' s x S K){w:World}(J:eA w S){vs vx:Value}(E:bH w S.dom s vs)(hx:bH w S.dom x vx) :
  Ei (Builtin.append_ #[t,t'] ty #[vs,vx]) w S K:=by
 unfold gD at h
 cases he:dO t with
 | none=>rw[he]at h;exact h.elim
 | some e =>
  rw[he]at h;obtain⟨rfl,hze,h⟩:=h;obtain⟨zx,zv,hz⟩:=yT hze;obtain⟨Z,i,hi,l⟩:=ju he;obtain⟨i',g1,g2,g3,g4,g5,g6,g7,g8⟩:=o7 hz;rw[hi]at g1;cases g1
  cases O:DD S x with
  | none=>rw[O]at h;exact h.elim
  | some p =>
   obtain⟨es,m,f,o⟩:=p;rw[O]at h;obtain⟨rfl,hm,F,h⟩:=h;obtain⟨xb,xo,xc,us,rfl,u1,L,u3⟩:=Cn J hx O hm;obtain⟨_,_,l3,_⟩:=iO (es:=cb e) (dZ f 0 m) us u1 (fun z hz=>by
    obtain⟨k,hk,rfl⟩:=ph f m 0 z hz;rw[aJ];exact F k hk)
   generalize Q:us.flatMap (fun u=>u.cells.toList)=fl at *;have r:fl.length=m*i.size:=by rw[L,l,aA]
   have hnews:∀j v,fl[j]? = some v->w.cell? ((⟨xb,xo,ae⟩:Addr).add j)=some v:=fun j v A=>by
    rw[iR,u3 j (by rw[<-L];exact(eU.1 A).1)];exact A
   have R:∀(k:Nat) (y:Value),fl[k]? = some y->lO y:=fun k y d=>(l3 y (gO d)).2;have hmb:m*i.bytes<=32*m:=by rw[aA];exact aq _ g4
   cases s with
   | nil =>
    simp only at h;obtain⟨hm2,hK⟩:=h;simp only[bH]at E;subst E;have a:=run_append_nil (P:=ak) w t ty e i zv Z hi g2 ⟨xb,xo,ae⟩ m xc fl r hnews hm om om;have c:=SX w m 0 e;generalize grownCap w m 0 e=cap at a c;have hsize:(fl.toArray++Builtin.zeroCells zv.cells (cap-m)).size=cb e*cap:=by
     rw[ig,nI,co,L,g6,aA (cap-m),<-bW,(om:m+(cap-m)=cap)]
    have B:=lF (w:=w.drew) (M:=S.dom) (es:=cb e) (len:=0) (m:=m) (g:=f) (h:=f) (cs:=fl.toArray++Builtin.zeroCells zv.cells (cap-m)) (vs:=us) (fun j A=>om) (a8.grow J.noU (dA.drew _ w) _ _ u1) F (fun q G=>by
     rw[dM,aJ,Q,eG (by rw[co,L];exact G)];simp)
    obtain⟨n1,n2,n3⟩:=eA.new (w:=w.drew) J.drew (X:=⟨e,cb e,m,f⟩) (cs:=fl.toArray++Builtin.zeroCells zv.cells (cap-m)) (by rw[hsize];exact aM _ c)
     (fun j A=>by have:=B j (by simpa using A);rw[yK om (by simpa using A)]at this;simpa using this) (fun k y d=>by
      rw[lc]at d;split at d
      .exact R k y (by simpa using d)
      .exact oJ g7 (g8 w S.dom) _ _ _ d)
    refine⟨_,_,_,_,hK _ n1,?_,n2,(dA.drew S.dom w).trans n3,a⟩;simp only[bH];exact⟨cap,_,e,(0,0),by rw[dM];rfl,c,jB w.drew _,by rw[hsize,aJ];exact ag _⟩
   | sl es' b off len =>
    simp only at h
    cases hX:S b with
    | none=>rw[hX]at h;exact h.elim
    | some X =>
     rw[hX]at h;obtain⟨rfl,rfl,H,hes,hn,hmax,hob,hK⟩:=h;simp only[bH,dM,aJ]at E;obtain⟨cap,cs',ty',fr',rfl,hlc,T,C⟩:=E;obtain⟨cs,W,hcsz,A,hcu⟩:=J b X hX;rw[W]at T;simp only[fW,Obj.cells.injEq]at T;obtain⟨rfl,rfl,rfl⟩:=T;rw[hes,hn]at A hcsz;rw[H]at W;by_cases hroom:len+m<=cap
     .have hf:=Db (P:=ak) w i.size m ⟨xb,xo,ae⟩ m xc fl r hnews;have n:cb e*len+fl.length<=cs.size:=by
       rw[L,<-bW];exact bO (aM _ hroom) C
      have N:=kg ak (b:=b) (off:=len*i.size) (ty:=e) fl w cs 0 W (by rw[l,cu,aA];exact n) (fun u Z=>(l3 u Z).1)
      rw[cu]at N;have a:(Builtin.append_ #[t,t] ty #[.slice (some ⟨b,0,ae⟩) len cap,.slice (some ⟨xb,xo,ae⟩) m xc]).run ak w=.ok (.slice (some ⟨b,0,ae⟩) (len+m) cap) (fI w b (eO cs (len*i.size) fl) e):=by
       simp[Builtin.append_,bM Z,sizeOf,typeInfo,hi,Builtin.lenOf,hroom,hf,iR,N]
      have hcsn:∀q,q<cb e*m->(eO cs (len*i.size) fl)[cb e*len+q]? = fl[q]?:=fun q G=>by
       rw[iP _ _ _ _ (by rw[l,aA];exact n),aj (by rw[l,L,aA len];omega)]
       rw[show cb e*len+q-len*i.size=q by rw[l,aA len];omega]
      have B:=lF (w:=w) (M:=S.dom) (es:=cb e) (len:=len) (m:=m) (g:=X.g) (h:=f) (cs:=eO cs (len*i.size) fl) (vs:=us) (fun j D=>by
       obtain⟨u,h5,h6⟩:=A j D;refine⟨u,kP h5 (fun q G=>?_),h6⟩;rw[iP _ _ _ _ (by rw[l,aA];exact n),ah]
       rw[l,aA len];have:cb e*(j+1)<=cb e*len:=aM _ D;rw[eB]at this;omega) u1 F (fun q G=>by rw[Q];exact hcsn q G)
      have U:=eA.write J hX (X':=⟨e,cb e,len+m,pC X.g len m f⟩) (cs:=cs) (cs':=eO cs (len*i.size) fl) (by rw[H];exact W) (iE _ _ _) H.symm (by
        rw[iE];exact bO (aM _ hroom) C) B (fun k y d=>by
        rw[iP _ _ _ _ (by rw[l,aA];exact n)]at d
        split at d
        .exact R _ y d
        .exact hcu k y d)
      rw[H]at U;have hK':=hK b (a9 rfl);rw[IA]at hK';refine⟨_,_,_,_,hK',?_,U.1,U.2,a⟩;simp only[bH,dM,aJ];exact⟨cap,eO cs (len*i.size) fl,e,(0,0),rfl,hroom,by rw[jF (fT W),aj rfl],by rw[iE];exact C⟩
     .obtain⟨os,o1,I,o3⟩:=nN A len 0 om;generalize hol:os.flatMap (fun u=>u.cells.toList)=ol at *;have hob2:(len+m)*i.bytes<=32*(len+m):=by rw[aA];exact aq _ g4
      have a:=run_append_grow (P:=ak) w t ty e i zv Z hi g2 ⟨b,0,ae⟩ len cap ol (by rw[I,l,aA]) (fun j v hjv=>by
        rw[iR,oA W];have:=o3 j (by rw[<-I];exact(eU.1 hjv).1)
        rw[dM]at this;rw[this];exact hjv) ⟨xb,xo,ae⟩ m xc fl r hnews om om (growslice_fits om om)
      have c:=SX w (len+m) cap e;generalize grownCap w (len+m) cap e=cap2 at a c;have hsize:(ol.toArray++fl.toArray++Builtin.zeroCells zv.cells (cap2-(len+m))).size=cb e*cap2:=by
       rw[ig,ig,nI,co,co,L,I,g6,aA (cap2-(len+m)),<-bW,<-bW,(om:len+m+(cap2-(len+m))=cap2)]
      have V:∀q,q<cb e*len->(ol.toArray++fl.toArray++Builtin.zeroCells zv.cells (cap2-(len+m)))[q]? = ol[q]?:=fun q G=>by
       rw[eG (by rw[ig,co,I];omega),eG (by rw[co,I];exact G)];simp
      have B:=lF (w:=w.drew) (M:=S.dom) (es:=cb e) (len:=len) (m:=m) (g:=X.g) (h:=f) (cs:=ol.toArray++fl.toArray++Builtin.zeroCells zv.cells (cap2-(len+m))) (vs:=us) (fun j D=>by
        obtain⟨u,h5,h6⟩:=A j D;refine⟨u,kP h5 (fun q G=>?_),bH.grow J.noU (dA.drew _ w) _ _ h6⟩;have hql:cb e*j+q<cb e*len:=by
         have:cb e*(j+1)<=cb e*len:=aM _ D;rw[eB]at this;omega
        rw[V _ hql,<-o3 _ hql,dM,aJ]) (a8.grow J.noU (dA.drew _ w) _ _ u1) F (fun q G=>by
        rw[Q,eG (by rw[ig,co,co,I,L];omega),Lf (by rw[co,I];omega),co,I,(om:cb e*len+q-cb e*len=q)];simp)
      have holu:∀(k:Nat) (y:Value),ol[k]? = some y->lO y:=fun k y d=>by
       have hk:k<ol.length:=(eU.1 d).1;have:=o3 k (by rw[<-I];exact hk)
       rw[d]at this;exact hcu _ y this
      obtain⟨n1,n2,n3⟩:=eA.new (w:=w.drew) J.drew (X:=⟨e,cb e,len+m,pC X.g len m f⟩) (cs:=ol.toArray++fl.toArray++Builtin.zeroCells zv.cells (cap2-(len+m))) (by rw[hsize];exact aM _ c) B (fun k y d=>by
        rw[lc]at d;split at d
        .rw[lc]at d;split at d
         .exact holu k y (by simpa using d)
         .exact R _ y (by simpa using d)
        .exact oJ g7 (g8 w S.dom) _ _ _ d)
      have hless:=eA.less n2 (S':=(S.del b).upd w.drew.heap.size ⟨e,cb e,len+m,pC X.g len m f⟩) (fun k Y hY=>by
       simp only[St.upd]at hY ⊢;split at hY
       .rename_i e1;rw[aj e1];exact hY
       .rename_i e1;rw[ah e1];exact FA S b k Y hY)
      refine⟨_,_,_,_,hK _ (aR n1),?_,hless.1,((dA.drew S.dom w).trans n3).weaken hless.2,a⟩;simp only[bH,dM,aJ];exact⟨cap2,_,e,(0,0),rfl,c,jB w.drew _,by rw[hsize];exact ag _⟩
   | _=>exact h.elim

def yU(z:Value)(n:Nat):Builtin.zeroCells z.cells n=((cn n z).flatMap (fun u=>u.cells.toList)).toArray:=mT z n
theorem sH{w:World}{M:Nat->Prop}{x:AV}{z:Value}(h:bH w M x z):∀n k,a8 w M (dZ (fun _=>x) k n) (cn n z)
 | 0,_=>by simp[dZ,a8]
 | n+1,k=>by simp only[dZ,kc,a8];exact⟨h,sH h n (k+1)⟩
def rJ(t:TypeId)(s x:AV)(S:St)(K:AV->St->Prop):Prop:=match s,x with
 | .sl es b off len,.int _ (.ofNat m)=>(match dO t,S b with
  | some e,some X=>(match fX e with
   | some (es',z,_)=>es'=es/\es=cb e/\off=0/\X.ty=e/\X.es=es/\X.n=len/\1<=m/\len+m<=1048576 /\
    ∀b',(b'=b∨S b'=ae)->K (.sl es b' 0 (len+m)) ((S.del b).upd b' ⟨e,es,len+m,pC X.g len m (fun _=>z)⟩)
   | ae=>False)
  | _,_=>False)
 | _,_=>False
def AL{K:AV->St->Prop}(h:rJ t s x S K){w:World}(N:eA w S){vs vx:Value}(O:bH w S.dom s vs)(hx:bH w S.dom x vx) :
  Ei (Builtin.append_ #[t,3] ty #[vs,vx]) w S K:=by
 unfold rJ at h;split at h
 .rename_i es0 b off len k m
  cases he:dO t with
  | none=>rw[he]at h;exact h.elim
  | some e =>
  cases hX:S b with
  | none=>rw[he,hX]at h;exact h.elim
  | some X =>
   rw[he,hX]at h;simp only at h
   cases Q:fX e with
   | none=>rw[Q]at h;exact h.elim
   | some p =>
   obtain⟨es',zx,zv⟩:=p;rw[Q]at h;obtain⟨rfl,rfl,rfl,A,hes,hn,hm,hmax,hK⟩:=h;obtain⟨hu,i,hi,a⟩:=ju he;obtain⟨i',g1,g2,g3,g4,g5,g6,g7,g8⟩:=o7 Q;rw[hi]at g1;cases g1;have h3u:=underlying3;simp only[bH]at hx;subst hx;have hx3:Int.ofNat m=(m:Int):=rfl;rw[hx3];have R:m≠0:=om
   have u1:=sH (g8 w S.dom) m 0;generalize hff:(fun _:Nat=>zx)=f at *;have D:∀j,j<m->ei (cb e) (f j):=fun j T=>by rw[<-hff];exact g7
   obtain⟨_,U,l3,_⟩:=iO (es:=cb e) (dZ f 0 m) (cn m zv) u1 (fun z Q=>by
    obtain⟨k,hk,rfl⟩:=ph f m 0 z Q;rw[aJ];exact D k hk)
   have V:=yU zv m;generalize hus:cn m zv=us at *;generalize W:us.flatMap (fun u=>u.cells.toList)=fl at *;rw[ky]at U;have Z:∀(k:Nat) (y:Value),fl[k]? = some y->lO y:=fun k y c=>(l3 y (gO c)).2;have hwm:IntKind.i64.wrap (m:Int)=m:=by rw[pL];omega
   have hmb:m*i.bytes<=32*m:=by rw[aA];exact aq _ g4
   have hib:¬(281474976710656<(m:Int)*(i.bytes:Int)):=by rw[<-aX];omega
   have hm0:¬((m:Int)<0):=om
   have hi1:i.size≠0:=by rw[a];unfold cb;split<;>omega
   simp only[bH,dM,aJ]at O;obtain⟨cap,cs',ty',fr',rfl,hlc,E,n⟩:=O;obtain⟨cs,L,hcsz,T,hcu⟩:=N b X hX;rw[L]at E;simp only[fW,Obj.cells.injEq]at E;obtain⟨rfl,rfl,rfl⟩:=E;rw[hes,hn]at T hcsz;rw[A]at L;by_cases hroom:len+m<=cap
   .have R:m≠0:=om
    have l:cb e*len+fl.length<=cs.size:=by
     rw[U,<-bW];exact bO (aM _ hroom) n
    have C:=kg ak (b:=b) (off:=len*i.size) (ty:=e) fl w cs 0 L (by rw[a,cu,aA];exact l) (fun u hu=>(l3 u hu).1)
    rw[cu]at C;have F:(storeCells ⟨b,len*i.size,ae⟩ fl).run ak w=.ok () (fI w b (eO cs (len*i.size) fl) e):=C;have d:(Builtin.append_ #[t,3] ty #[.slice (some ⟨b,0,ae⟩) len cap,.int k (m:Int)]).run ak w=.ok (.slice (some ⟨b,0,ae⟩) (len+m) cap) (fI w b (eO cs (len*i.size) fl) e):=by
     simp[Builtin.append_,bM hu,bM h3u,sizeOf,typeInfo,hi,asInt,asIntOf,hwm,hm0,hib,zeroValue,g2,V,hroom,iR,F];intro h0;exact absurd h0 (Nat.mul_ne_zero R hi1)
    have hcsn:∀q,q<cb e*m->(eO cs (len*i.size) fl)[cb e*len+q]? = fl[q]?:=fun q G=>by
     rw[iP _ _ _ _ (by rw[a,aA];exact l),aj (by rw[a,U,aA len];omega)]
     rw[show cb e*len+q-len*i.size=q by rw[a,aA len];omega]
    have H:=lF (w:=w) (M:=S.dom) (es:=cb e) (len:=len) (m:=m) (g:=X.g) (h:=f) (cs:=eO cs (len*i.size) fl) (vs:=us) (fun j o=>by
     obtain⟨u,h5,h6⟩:=T j o;refine⟨u,kP h5 (fun q G=>?_),h6⟩;rw[iP _ _ _ _ (by rw[a,aA];exact l),ah]
     rw[a,aA len];have:cb e*(j+1)<=cb e*len:=aM _ o;rw[eB]at this;omega) u1 D (fun q G=>by rw[W];exact hcsn q G)
    have I:=eA.write N hX (X':=⟨e,cb e,len+m,pC X.g len m f⟩) (cs:=cs) (cs':=eO cs (len*i.size) fl) (by rw[A];exact L) (iE _ _ _) A.symm (by
      rw[iE];exact bO (aM _ hroom) n) H (fun k y c=>by
      rw[iP _ _ _ _ (by rw[a,aA];exact l)]at c
      split at c
      .exact Z _ y c
      .exact hcu k y c)
    rw[A]at I;have hK':=hK b (a9 rfl);rw[IA]at hK';refine⟨_,_,_,_,hK',?_,I.1,I.2,d⟩;simp only[bH,dM,aJ];exact⟨cap,eO cs (len*i.size) fl,e,(0,0),rfl,hroom,by rw[jF (fT L),aj rfl],by rw[iE];exact n⟩
   .obtain⟨os,o1,B,o3⟩:=nN T len 0 om;generalize hol:os.flatMap (fun u=>u.cells.toList)=ol at *;have hob2:(len+m)*i.bytes<=32*(len+m):=by rw[aA];exact aq _ g4
    have d:=Lib.run_append_grow_zeros (P:=ak) w t 3 ty e i zv k .i64 hu h3u hi g2 (some ⟨b,0,ae⟩) len cap ol (Db (P:=ak) w.drew i.size len ⟨b,0,ae⟩ len cap ol (by rw[B,a,aA]) (fun j v hjv=>by
      rw[iR];have hbd:w.drew.heap[b]? = some (.cells cs e (0,0)):=L;rw[oA hbd];have:=o3 j (by rw[<-B];exact(eU.1 hjv).1)
      rw[dM]at this;rw[this];exact hjv)) m om (by rw[a];unfold cb;split<;>omega) om om om (growslice_fits om om)
    rw[V]at d;have r:=SX w (len+m) cap e;generalize grownCap w (len+m) cap e=cap2 at d r;have hsize:(ol.toArray++fl.toArray++Builtin.zeroCells zv.cells (cap2-(len+m))).size=cb e*cap2:=by
     rw[ig,ig,nI,co,co,U,B,g6,aA (cap2-(len+m)),<-bW,<-bW,(om:len+m+(cap2-(len+m))=cap2)]
    have J:∀q,q<cb e*len->(ol.toArray++fl.toArray++Builtin.zeroCells zv.cells (cap2-(len+m)))[q]? = ol[q]?:=fun q G=>by
     rw[eG (by rw[ig,co,B];omega),eG (by rw[co,B];exact G)];simp
    have H:=lF (w:=w.drew) (M:=S.dom) (es:=cb e) (len:=len) (m:=m) (g:=X.g) (h:=f) (cs:=ol.toArray++fl.toArray++Builtin.zeroCells zv.cells (cap2-(len+m))) (vs:=us) (fun j o=>by
      obtain⟨u,h5,h6⟩:=T j o;refine⟨u,kP h5 (fun q G=>?_),bH.grow N.noU (dA.drew _ w) _ _ h6⟩;have hql:cb e*j+q<cb e*len:=by
       have:cb e*(j+1)<=cb e*len:=aM _ o;rw[eB]at this;omega
      rw[J _ hql,<-o3 _ hql,dM,aJ]) (a8.grow N.noU (dA.drew _ w) _ _ u1) D (fun q G=>by
      rw[W,eG (by rw[ig,co,co,B,U];omega),Lf (by rw[co,B];omega),co,B,(om:cb e*len+q-cb e*len=q)];simp)
    have holu:∀(k:Nat) (y:Value),ol[k]? = some y->lO y:=fun k y c=>by
     have hk:k<ol.length:=(eU.1 c).1;have:=o3 k (by rw[<-B];exact hk)
     rw[c]at this;exact hcu _ y this
    obtain⟨n1,n2,n3⟩:=eA.new (w:=w.drew) N.drew (X:=⟨e,cb e,len+m,pC X.g len m f⟩) (cs:=ol.toArray++fl.toArray++Builtin.zeroCells zv.cells (cap2-(len+m))) (by rw[hsize];exact aM _ r) H (fun k y c=>by
      rw[lc]at c;split at c
      .rw[lc]at c;split at c
       .exact holu k y (by simpa using c)
       .exact Z _ y (by simpa using c)
      .exact oJ g7 (g8 w S.dom) _ _ _ c)
    have hless:=eA.less n2 (S':=(S.del b).upd w.drew.heap.size ⟨e,cb e,len+m,pC X.g len m f⟩) (fun k Y hY=>by
     simp only[St.upd]at hY ⊢;split at hY
     .rename_i e1;rw[aj e1];exact hY
     .rename_i e1;rw[ah e1];exact FA S b k Y hY)
    refine⟨_,_,_,_,hK _ (aR n1),?_,hless.1,((dA.drew S.dom w).trans n3).weaken hless.2,d⟩;simp only[bH,dM,aJ];exact⟨cap2,_,e,(0,0),rfl,r,jB w.drew _,by rw[hsize];exact ag _⟩
 .exact h.elim

def yL(len:Nat)(lo hi mx:Option AV)(K:Nat->Nat->Prop):Prop :=
 ∃l h:Nat,(match lo with|ae=>l=0|some (.int _ a)=>a=(l:Int)|_=>False)/\(match hi with|ae=>h=len|some (.int _ a)=>a=(h:Int)|_=>False) /\
  (match mx with|ae=>True|some (.int _ a)=>(h:Int)<=a/\a<=(len:Int)/\hi.isSome=true|_=>False)/\l<=h/\h<=len/\K l h
def li(t:TypeId)(x:AV)(lo hi mx:Option AV)(K:AV->Prop):Prop:=match dO t,x with
 | some e,.sl es b off len=>es=cb e/\yL len lo hi mx (fun l h=>K (if l=0∨l<h then .sl es b (off+l) (h-l)else .lst es 0 (fun _=>.any)))
 | some e,.lst es n g=>es=cb e/\yL n lo hi mx (fun l h=>K (.lst es (h-l) (fun j=>g (l+j))))
 | some _,.nil=>yL 0 lo hi mx (fun _ _=>K .nil)
 | _,_=>False
def tu(w:World)(M:Nat->Prop):Option AV->Option Value->Prop
 | ae,ae=>True
 | some x,some v=>bH w M x v
 | _,_=>False
def sT{cap:Nat}(B:len<=cap){lo j mx:Option AV}{K:Nat->Nat->Prop}(h:yL len lo j mx K){vl vh vm:Option Value}(b:tu w M lo vl)(f:tu w M j vh)(o:tu w M mx vm) :
  ∃l h m:Nat,K l h/\l<=h/\h<=len/\h<=m/\m<=cap/\(Instr.sliceBounds true len cap vl vh vm).run ak w=.ok (l,h,m) w:=by
 obtain⟨l,h,d,e,p,g,q,r⟩:=h;have bnd:∀(a:Int) (k:IntKind) (n:Nat) (y:Nat) (c:BoundsCode),a=(n:Int)->n<=y->(Instr.sliceBound (.int k a) y c).run ak w=.ok n w:=by
  intro a k n y c s t;subst s;have:(0:Int)<=n/\(n:Int)<=(y:Int):=om
  simp[Instr.sliceBound,asIntOf,t]
 cases mx with
 | none =>
  cases vm with
  | some _=>exact o.elim
  | none =>
   refine⟨l,h,cap,r,g,q,om,ag _,?_⟩
   cases j with
   | none =>
    cases vh with
    | some _=>exact f.elim
    | none =>
     simp only at e;subst e
     cases lo with
     | none =>
      cases vl with
      | some _=>exact b.elim
      | none=>simp only at d;subst d;simp[Instr.sliceBounds]
     | some x =>
      cases vl with
      | none=>exact b.elim
      | some v =>
       cases x<;>simp only at d
       simp only[tu,bH]at b;subst b;simp[Instr.sliceBounds,bnd _ _ l h _ d g]
   | some y =>
    cases vh with
    | none=>exact f.elim
    | some u =>
     cases y<;>simp only at e
     simp only[tu,bH]at f;subst f
     cases lo with
     | none =>
      cases vl with
      | some _=>exact b.elim
      | none=>simp only at d;subst d;simp[Instr.sliceBounds,bnd _ _ h cap _ e om]
     | some x =>
      cases vl with
      | none=>exact b.elim
      | some v =>
       cases x<;>simp only at d
       simp only[tu,bH]at b;subst b;simp[Instr.sliceBounds,bnd _ _ h cap _ e om,bnd _ _ l h _ d g]
 | some z =>
  cases vm with
  | none=>exact o.elim
  | some C =>
   cases z<;>simp only at p
   rename_i km am;simp only[tu,bH]at o;subst o;obtain⟨D,E,A⟩:=p
   cases j with
   | none=>simp at A
   | some y =>
    cases vh with
    | none=>exact f.elim
    | some u =>
     cases y<;>simp only at e
     simp only[tu,bH]at f;subst f;refine⟨l,h,am.toNat,r,g,q,om,om,?_⟩
     have i:=bnd am km am.toNat cap .slice3Acap om om
     cases lo with
     | none =>
      cases vl with
      | some _=>exact b.elim
      | none=>simp only at d;subst d;simp[Instr.sliceBounds,i,bnd _ _ h am.toNat _ e om]
     | some x =>
      cases vl with
      | none=>exact b.elim
      | some v =>
       cases x<;>simp only at d
       simp only[tu,bH]at b;subst b;simp[Instr.sliceBounds,i,bnd _ _ h am.toNat _ e om,bnd _ _ l h _ d g]
def uO{lo hi mx:Option AV}(h:li t x lo hi mx K){w:World}{M:Nat->Prop}{v:Value}{vl vh vm:Option Value}(k:bH w M x v)(y:tu w M lo vl)(B:tu w M hi vh)(C:tu w M mx vm) :
  ∃z u,K z/\bH w M z u/\(Instr.sliceAt t v vl vh vm).run ak w=.ok u w:=by
 unfold li at h;split at h
 .rename_i e es b off len o;obtain⟨rfl,D⟩:=h;obtain⟨p,i,c,s⟩:=ju o;simp only[bH]at k;obtain⟨cap,cs,ty,fr,rfl,E,hheap,F⟩:=k;obtain⟨l,h,m,q,J,L,N,O,a⟩:=sT E D y B C;have d:(Instr.sliceAt t (.slice (some ⟨b,cb e*off,ae⟩) len cap) vl vh vm).run ak w=.ok (.slice (if m=l then some ⟨b,cb e*off,ae⟩else some ⟨b,cb e*off+l*cb e,ae⟩) (h-l) (m-l)) w:=by
   simp[Instr.sliceAt,bM p,Instr.slice,a,df c,s,iR]
  refine⟨_,_,q,?_,d⟩;by_cases f:l=0∨l<h
  .rw[aj f];simp only[bH];refine⟨m-l,cs,ty,fr,?_,om,hheap,bO (aM _ om) F⟩
   rcases f with rfl|f
   .simp
   .rw[ah om,bW,aA l]
  .rw[ah f];simp only[bH];exact⟨_,m-l,by rw[(om:h-l=0)],om,fun P=>absurd P om⟩
 .rename_i e es n g o;obtain⟨rfl,D⟩:=h;obtain⟨p,i,c,s⟩:=ju o;simp only[bH]at k;obtain⟨A,cap,rfl,E,G⟩:=k;obtain⟨l,h,m,q,J,L,N,O,a⟩:=sT E D y B C;have d:(Instr.sliceAt t (.slice A n cap) vl vh vm).run ak w=.ok (.slice (if m=l then A else A.map (·.add (l*cb e))) (h-l) (m-l)) w:=by
   simp[Instr.sliceAt,bM p,Instr.slice,a,df c,s]
  refine⟨_,_,q,?_,d⟩;simp only[bH];refine⟨_,m-l,rfl,om,fun P=>?_⟩
  obtain⟨b,off,rfl,H,Q,R⟩:=G om;rw[ah om];refine⟨b,off+l*cb e,by simp[iR],H,Q,fun j S=>?_⟩
  obtain⟨u,r,I⟩:=R (l+j) om;refine⟨u,?_,I⟩;rw[bW,aA (cb e) l,<-kU]at r;exact r
 .rename_i e o;obtain⟨p,i,c,s⟩:=ju o;simp only[bH]at k;subst k;obtain⟨l,h',m,q,J,L,N,O,a⟩:=sT (ag 0) h y B C;obtain rfl:l=0:=om
  obtain rfl:h'=0:=om
  obtain rfl:m=0:=om
  exact⟨_,.slice ae 0 0,q,by simp[bH],by simp[Instr.sliceAt,bM p,Instr.slice,a,df c]⟩
 .exact h.elim
def H5(t:TypeId)(x:AV)(K:AV->Prop):Prop:=match dO t,x with
 | some _,.sl _ _ _ len=>K (.int .i64 len)
 | some _,.lst _ n _=>K (.int .i64 n)
 | some _,.nil=>K (.int .i64 0)
 | ae,.mag n=>t=48/\K (.int .i64 (nl n))
 | _,_=>False
def AH(h:H5 t x K){w:World}{M:Nat->Prop}{v:Value}(a:bH w M x v) :
  ∃z u,K z/\bH w M z u/\(Builtin.len_ #[t] ty #[v]).run ak w=.ok u w:=by
 unfold H5 at h;split at h
 .rename_i e es b off len d;obtain⟨f,_⟩:=ju d;simp only[bH]at a;obtain⟨cap,cs,ty,fr,rfl,_⟩:=a;exact⟨_,.int .i64 len,h,by simp[bH],by simp[Builtin.len_,bM f,goInt]⟩
 .rename_i e es n g d;obtain⟨f,_⟩:=ju d;simp only[bH]at a;obtain⟨A,c,rfl,_⟩:=a;exact⟨_,.int .i64 n,h,by simp[bH],by simp[Builtin.len_,bM f,goInt]⟩
 .rename_i e d;obtain⟨f,_⟩:=ju d;simp only[bH]at a;subst a;exact⟨_,.int .i64 0,h,by simp[bH],by simp[Builtin.len_,bM f,goInt]⟩
 .rename_i n d;obtain⟨rfl,h⟩:=h;simp only[bH]at a;obtain⟨neg,A,k,c,xs,e,i,j,l,m⟩:=a
  cases e
  have o:k=nl n:=by
   rw[aD j l];congr 1;simp[sg]at m;omega
  rw[<-o]at h;exact⟨_,.int .i64 k,h,by simp[bH],by simp[Builtin.len_,bM fK,goInt]⟩
 .exact h.elim
def xP(t:TypeId)(d s:AV)(S:St)(K:AV->St->Prop):Prop:=match dO t,d with
 | some e,.sl es b off len=>(match S b,DD S s with
  | some X,some (es',m,h,_)=>es=cb e/\es'=es/\X.es=es/\off+len<=X.n/\m=len/\0<m/\(∀j,j<m->ei es (h j)) /\
   K (.int .i64 len) (S.upd b { X with g:=fun j=>if off<=j/\j<off+len then h (j-off)else X.g j })
  | _,_=>False)
 | _,_=>False
def FT{d:AV}{K:AV->St->Prop}(h:xP t d s S K){w:World}(D:eA w S){vd vs:Value}(E:bH w S.dom d vd)(r:bH w S.dom s vs) :
  Ei (Builtin.copy_ #[t,t'] ty #[vd,vs]) w S K:=by
 unfold xP at h;split at h
 .rename_i e es b off len I;obtain⟨J,i,L,x⟩:=ju I;split at h
  .rename_i X es' m f o M y;obtain⟨rfl,rfl,l,N,rfl,O,A,F⟩:=h;obtain⟨xb,xo,xc,us,rfl,Q,G,R⟩:=Cn D r y O;simp only[bH]at E;obtain⟨cap,cs',ty',fr',rfl,_,_,_⟩:=E;have n:∀z∈dZ f 0 m,ei X.es z:=fun z T=>by
    obtain⟨k,U,rfl⟩:=ph f m 0 z T;rw[aJ,l];exact A k U
   obtain⟨cs,V,a,W,B,C⟩:=qV D M (dZ f 0 m) us Q n off (by rw[ky];exact N)
   rw[l]at a B C;generalize hfl:us.flatMap (fun u=>u.cells.toList)=fl at *;have p:fl.length=m*i.size:=by rw[G,x,aA]
   have Y:=Db (P:=ak) w i.size m ⟨xb,xo,ae⟩ m xc fl p (fun j v H=>by
    rw[iR,R j (by rw[<-G];exact(eU.1 H).1)];exact H)
   have c:=kg ak (b:=b) (off:=cb e*off) (ty:=X.ty) fl w cs 0 V (by rw[cu];exact a) W
   rw[cu]at c;have q:(Builtin.copy_ #[t,t'] ty #[.slice (some ⟨b,cb e*off,ae⟩) m cap,.slice (some ⟨xb,xo,ae⟩) m xc]).run ak w=.ok (.int .i64 m) (fI w b (eO cs (cb e*off) fl) X.ty):=by
    simp[Builtin.copy_,bM J,Builtin.lenOf,df L,Y,c,goInt]
   have Z:ft X.g off (dZ f 0 m)=fun j=>if off<=j/\j<off+m then f (j-off)else X.g j:=by
    funext j;simp only[ft,ky];split
    .rw[sR _ _ _ _ om,aJ]
    .rfl
   rw[Z]at B C;rw[l]at F;exact⟨_,.int .i64 m,_,_,F,by simp[bH],B,C,q⟩
  .exact h.elim
 .exact h.elim

theorem uA(off:Nat):∀(l:List Value) (k:Nat) (cs:Array Value),(l.zipIdx k).foldl (fun(cs:Array Value) (p:Value×Nat)=>cs.setIfInBounds (off+p.2) p.1) cs=eO cs (off+k) l
 | [],_,_=>rfl
 | v::l,k,cs=>by
  simp only[List.zipIdx_cons,List.foldl_cons,eO];rw[uA off l (k+1)];rfl
def ez(k:Nat):List AV->List (Nat×AV)
 | []=>[]
 | x::l=>(k,x)::ez (k+1) l
def lS(k:Nat):List Value->List (Nat×Value)
 | []=>[]
 | x::l=>(k,x)::lS (k+1) l
theorem sE:∀(a b:List Value) (cs:Array Value) (o:Nat),eO cs o (a++b)=eO (eO cs o a) (o+a.length) b
 | [],b,cs,o=>by simp[eO]
 | x::a,b,cs,o=>by simp only[oG,eO,cK];rw[sE a b];congr 1;omega
theorem EU{w:World}{M:Nat->Prop}{es:Nat}:∀(l:List AV) (vs:List Value) (k:Nat) (cs:Array Value),a8 w M l vs->(∀z∈l,ei es z)->es*(k+l.length)<=cs.size ->
  Instr.fill (fun i=>some (i*es,es)) cs (lS k vs)=some (eO cs (es*k) (vs.flatMap (fun u=>u.cells.toList)))
 | [],[],k,cs,_,_,_=>by simp[lS,Instr.fill,eO]
 | a::l,v::vs,k,cs,b,f,d=>by
  simp only[a8]at b;obtain⟨g,_,_⟩:=rT (f a (fB ..)) b.1;simp only[cK]at d;have n:es*(k+1)<=cs.size:=bO (aM _ om) d;have m:¬(cs.size<k*es+es):=by rw[eB,aA]at n;omega
  have ih:=EU l vs (k+1) (eO cs (k*es) v.cells.toList) b.2 (fun z o=>f z (ee _ o)) (by rw[iE];rw[(om:k+1+l.length=k+(l.length+1))];exact d)
  have q:v.cells.zipIdx.foldl (fun(cs:Array Value) (p:Value×Nat)=>cs.setIfInBounds (k*es+p.2) p.1) cs=eO cs (k*es) v.cells.toList:=by
   rw[<-Array.foldl_toList,Array.toList_zipIdx,uA];rfl
  simp only[lS,Instr.fill];rw[ah (by simp[g];omega)]
  have e:(v.cells.zipIdx.foldl (fun(cs:Array Value) x=>match x with|(c,j)=>cs.setIfInBounds (k*es+j) c) cs)=eO cs (k*es) v.cells.toList:=q
  rw[e,ih,ef,sE,aA k es];congr 2;rw[SM,g,eB]
 | [],_::_,_,_,h,_,_=>by simp[a8]at h
 | _::_,[],_,_,h,_,_=>by simp[a8]at h
def C9(cs:Array Value)(l:List Value)(h:cs.size=l.length):eO cs 0 l=l.toArray:=by
 apply qU;intro i;rw[iP _ _ _ _ om];split
 .simp
 .rename_i a;rw[eg om,eg (by simp;omega)]
def da(t:TypeId)(n:Nat)(ps:List (Nat×AV))(S:St)(K:AV->St->Prop):Prop:=match dO t with
 | some e=>ps=ez 0 (ps.map (·.2))/\ps.length=n/\n<=16/\(fX e).isSome=true/\(∀p∈ps,ei (cb e) p.2)/\∀b,S b=ae->K (.sl (cb e) b 0 n) (S.upd b ⟨e,cb e,n,fun j=>(ps.map (·.2)).getD j .any⟩)
 | ae=>False
def qy(w:World)(M:Nat->Prop):List (Nat×AV)->List (Nat×Value)->Prop
 | [],[]=>True
 | p::l,q::r=>p.1=q.1/\bH w M p.2 q.2/\qy w M l r
 | _,_=>False
theorem qx{w:World}{M:Nat->Prop}:∀(ps:List (Nat×AV)) (qs:List (Nat×Value)),qy w M ps qs->a8 w M (ps.map (·.2)) (qs.map (·.2))/\∀k,ps=ez k (ps.map (·.2))->qs=lS k (qs.map (·.2))
 | [],[],_=>⟨by simp[a8],fun _ _=>rfl⟩
 | p::l,q::r,h=>by
  simp only[qy]at h;obtain⟨b,c⟩:=qx l r h.2.2;refine⟨by simp only[iG,a8];exact⟨h.2.1,b⟩,fun k a=>?_⟩
  simp only[iG,ez,Tp]at a;simp only[iG,lS,Tp];refine⟨?_,c (k+1) a.2⟩;have:=a.1;obtain⟨d,e⟩:=p;obtain⟨f,g⟩:=q;simp at this h;simp[<-h.1,this]
 | [],_::_,h=>h.elim
 | _::_,[],h=>h.elim
def rA{e:TypeId}(C:dO t=some e)(l:ps=ez 0 (ps.map (·.2)))(c:ps.length=n)(D:n<=16)(m:(fX e).isSome=true)(o:∀p∈ps,ei (cb e) p.2){w:World}(E:eA w S){qs:List (Nat×Value)}(F:qy w S.dom ps qs) :
  (Instr.buildSlice t n qs.toArray).run ak w=.ok (.slice (some ⟨w.heap.size,0,ae⟩) n n) (w.alloc (.cells ((qs.map (·.2)).flatMap (fun u=>u.cells.toList)).toArray e)):=by
 obtain⟨v,i,h,a⟩:=ju C;obtain⟨zx,zv,k⟩:=yT m;obtain⟨i',x,G,L,M,N,O,P,Q⟩:=o7 k;rw[h]at x;cases x;obtain⟨y,H⟩:=qx ps qs F;have q:=H 0 l;have d:(ps.map (·.2)).length=n:=by simp[c]
 generalize hxs:ps.map (·.2)=xs at *
 generalize hvs:qs.map (·.2)=vs at *
 have b:∀z∈xs,ei (cb e) z:=fun z k=>by
  rw[<-hxs]at k;obtain⟨p,r,rfl⟩:=ic.1 k;exact o p r
 obtain⟨R,I,J,A⟩:=lV E e xs vs y b;rw[d]at I J A;have f:cb e<=2:=by unfold cb;split<;>omega
 have B:n*cb e<=32:=bO (bB D f) om;have hsmall:¬(16777216<n*i.size):=by rw[a];omega
 have hfill:∀cs:Array Value,cs.size=n*i.size->Instr.fill (fun j=>some (j*i.size,i.size)) cs qs=some (vs.flatMap (fun u=>u.cells.toList)).toArray:=by
  intro cs g;rw[q,a,EU xs vs 0 cs y b (by rw[g,a,aJ,d,aA];exact ag _),dM,C9 _ _ (by rw[g,a,A,aA])]
 by_cases s:n*i.size=0
 .have hfill0:=hfill (Array.map (fun _=>default) (Array.range 0)) (by simp[s])
  simp[Instr.buildSlice,bM v,df h,s,newRow,hfill0]
 .have hfill1:=hfill ((Array.range (n*i.size)).map (zv.cells[· % zv.cells.size]!)) sm
  simp[Instr.buildSlice,bM v,df h,hsmall,newRow,zeroValue,typeInfo,h,G,hfill1];intro K;exact absurd K s
def uT{K:AV->St->Prop}(h:da t n ps S K){w:World}(l:eA w S){qs:List (Nat×Value)}(m:qy w S.dom ps qs) :
  Ei (Instr.buildSlice t n qs.toArray) w S K:=by
 unfold da at h
 cases f:dO t with
 | none=>rw[f]at h;exact h.elim
 | some e =>
  rw[f]at h;obtain⟨g,a,s,i,b,u⟩:=h;have c:=rA f g a s i b l m;obtain⟨v,_⟩:=qx ps qs m;have j:(ps.map (·.2)).length=n:=by simp[a]
  have d:∀z∈ps.map (·.2),ei (cb e) z:=fun z x=>by
   obtain⟨p,k,rfl⟩:=ic.1 x;exact b p k
  obtain⟨y,o,q,r⟩:=lV l e _ _ v d;rw[j]at o q r;refine⟨_,_,_,_,u _ y,?_,o,q,c⟩;simp only[bH,dM,aJ];exact⟨n,_,e,(0,0),rfl,ag _,jB w _,by rw[co,r];exact ag _⟩
def eN(t:TypeId)(n:Nat)(ps:List (Nat×AV))(z:AV):Prop:=match dO t with
 | some e=>ps=ez 0 (ps.map (·.2))/\ps.length=n/\n<=16/\(fX e).isSome=true/\(∀p∈ps,ei (cb e) p.2)/\z=.lst (cb e) n (fun j=>(ps.map (·.2)).getD j .any)
 | ae=>False
def uf{z:AV}(h:eN t n ps z){w:World}(i:eA w S){qs:List (Nat×Value)}(s:qy w S.dom ps qs) :
  ∃v w',(Instr.buildSlice t n qs.toArray).run ak w=.ok v w'/\bH w' S.dom z v/\dA (fun _=>False) (fun _=>False) w w':=by
 unfold eN at h
 cases l:dO t with
 | none=>rw[l]at h;exact h.elim
 | some e =>
  rw[l]at h;obtain⟨m,a,B,o,d,rfl⟩:=h;have f:=rA l m a B o d i s;obtain⟨x,_⟩:=qx ps qs s;have C:(ps.map (·.2)).length=n:=by simp[a]
  have b:∀z∈ps.map (·.2),ei (cb e) z:=fun z E=>by
   obtain⟨p,r,rfl⟩:=ic.1 E;exact d p r
  obtain⟨F,L,M,N⟩:=lV i e _ _ x b;obtain⟨O,P,Q,G⟩:=iO (ps.map (·.2)) (qs.map (·.2)) x b
  generalize hcs:((qs.map (·.2)).flatMap (fun u=>u.cells.toList))=cs at *
  have H:(w.alloc (.cells cs.toArray e)).heap.size=w.heap.size+1:=by simp
  have hkeep:∀k,k<w.heap.size->(w.alloc (.cells cs.toArray e)).heap[k]? = w.heap[k]?:=fun k g=>by
   show(w.heap.push _)[k]? = _;rw[Array.getElem?_push_lt g,dw g]
  have y:∀D:Nat->Prop,dA D D w (w.alloc (.cells cs.toArray e)):=fun D=>⟨rfl,rfl,rfl,om,fun k g _=>hkeep k g,fun k c ty fr A=>⟨c,by rw[hkeep k (fT A)];exact A,rfl⟩,fun _ _ h=>h⟩
  refine⟨_,_,f,?_,y _⟩;simp only[bH];refine⟨_,n,rfl,ag _,fun _=>⟨w.heap.size,0,rfl,om,fun I=>I F,fun j R=>?_⟩⟩
  obtain⟨u,J,K⟩:=G j om;refine⟨u,⟨cs.toArray,e,(0,0),jB w _,K cs.toArray 0 (fun q T=>by simp)⟩,bH.grow i.noU (y _) _ _ J⟩
def RO(op:UnOp)(x:AV)(K:AV->Prop):Prop:=match op,x with
 | .neg,.int k n=>K (.int k (k.wrap (0-n)))
 | .not,.bool b=>K (.bool (!b))
 | _,_=>False
def Cz{op:UnOp}(h:RO op x K){w:World}{M:Nat->Prop}{v:Value}(a:bH w M x v):∃z u,K z/\bH w M z u/\(Op.unary op v).run ak w=.ok u w:=by
 unfold RO at h;split at h
 .rename_i k n;simp only[bH]at a;subst a;exact⟨_,.int k (k.wrap (0-n)),h,by simp[bH],by simp[Op.unary,Op.intArith]⟩
 .rename_i b;simp only[bH]at a;subst a;exact⟨_,.bool (!b),h,by simp[bH],by simp[Op.unary]⟩
 .exact h.elim
def xG:TypeId->Option IntKind
 | 2=>some .i64
 | 3=>some .i64
 | 5=>some .u8
 | 34=>some .i64
 | 97=>some .u64
 | _=>ae
def kChk(P:Program)(s t:TypeId):Option IntKind:=match P.underlying s,P.underlying t with
 | some _,some (.int k)=>some k
 | _,_=>ae
def C6(s:TypeId):Bool:=s==2||s==3||s==5||s==25||s==41||s==97
def AJ(s d:TypeId)(x:AV)(K:AV->Prop):Prop:=match xG d,x with
 | some k,.int _ n=>C6 s=true/\K (.int k (k.wrap n))
 | _,_=>False
def OD{s d:TypeId}{k:IntKind}(e:C6 s=true)(c:xG d=some k):∃u,ak.underlying s=some u/\ak.underlying d=some (.int k):=by
 have f:∀u,(ak.underlying s).isSome=true->ak.underlying d=some u->∃x,ak.underlying s=some x/\ak.underlying d=some u:=fun u a b=>⟨_,Option.eq_some_of_isSome a,b⟩;refine f _ ?_ ?_
 .unfold C6 at e;simp only[pS,vL]at e;rcases e with ((((rfl|rfl)|rfl)|rfl)|rfl)|rfl<;>kernel_rfl
 .unfold xG at c;split at c<;>first|(cases c;kernel_rfl)|cases c
def xQ{s d:TypeId}(h:AJ s d x K){w:World}{M:Nat->Prop}{v:Value}(a:bH w M x v):∃z u,K z/\bH w M z u/\(convert s d v).run ak w=.ok u w:=by
 unfold AJ at h;split at h
 .rename_i k k' n b;obtain⟨c,e⟩:=h;obtain⟨u,f,g⟩:=OD c b;simp only[bH]at a;subst a;refine⟨_,.int k (k.wrap n),e,by simp[bH],?_⟩
  simp only[convert,j9,bM f,bM g,io];simp[Conv.intToInt]
 .exact h.elim

end Go.Proofs.YtdobfmlmenaajaaGreatDoor
