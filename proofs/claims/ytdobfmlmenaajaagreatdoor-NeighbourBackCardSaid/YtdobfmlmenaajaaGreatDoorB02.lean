/-
  Lemmas for NeighbourBack.
-/
import Derived.Test.YtdobfmlmenaajaaGreatDoorB01
import Derived.Lib.AppendZerosOnto
namespace Go.Proofs.YtdobfmlmenaajaaGreatDoor
open Go.RowKit Tryz
open _root_.Classical renaming choose→fP
open _root_.List renaming replicate→cp,getD→df
open _root_.Option renaming none→ae
open Tryz renaming prog→ak
open Value renaming slice→ao,bool→au,int→dx
open _root_.Go.RowKit renaming Below→Uh,Hid→Ur,intOf→Uu
open _root_.Go renaming Calls→Uq,grownCap→We,growslice_fits→VC,bits→Vp,Operand→UL,asIntOf→Va,goInt→Wz,loadCellsFrom→Vj,newRow→Wn,sizeOf→Wo,storeCells→Vl,typeInfo→Uw,underlying→Vm,zeroValue→Uv,Program→Vb,Addr→Ve,IntKind→UJ,TypeId→TW,Value→TM,World→TO,binOp→UO,eqGuard→Us,undef→Ut,results→UT
open _root_.Go.Builtin renaming append_→Uo,lenOf→VL,zeroCells→TS,copy_→UW,len_→UG
open _root_.Go.IntKind renaming i64→Uc,u32→UH,u64→Uj
open _root_.Go.Value renaming agg→Uf,bool→TR,cells→TV,int→TQ,pointer→Uk,slice→TK,tuple→UB
open _root_.Go.Obj renaming cells→TP
open _root_.Go.Instr renaming indexAt→UI,loadAt→UC,sliceAt→Ux,storeAt→Vk,sureAddr→Uy,alloc→UK,box→Vt,buildSlice→Uz,fill→Ul,slice→Vx,sliceBound→Vu,sliceBounds→Un
open _root_.Go.Op renaming intCmp→UY,intDiv→WE,unary→Vq
open _root_.Bool renaming false→TJ,true→TN
open _root_.Option renaming none→Ud,some→ho
set_option maxHeartbeats 6400000
set_option maxRecDepth 4096
set_option linter.all false
variable{a:Act}{ad:Addr}{cs':Array Value}{op:BinOp}{l xs zs:List Nat}{vs:List Value}{B D N Q R V b c es f j k len m n size:Nat}{M M' M'':Nat->Prop}{fr:Nat×Nat}{o:Obj}{A:Option Addr}{d:TypeDesc}{t t' ty:TypeId}{i:TypeInfo}{u v z:Value}{w w':World}
def CQ(va vb:TM)(za zb:Int)(B:Nat)(w:TO)(hB:B<=w.heap.size)(ha:eC w B va za)(hb:eC w B vb zb)(sa:nl za.natAbs<=1073741824)(sb:nl zb.natAbs<=1073741824) :
  Uq ak 87 #[va,vb] w (dJ w (za+zb)):=by
 obtain⟨s1,A,n,c,xs,rfl,hnc,hx,tx,rfl⟩:=ha;obtain⟨s2,D,m,d,ys,rfl,hmd,hy,ty,rfl⟩:=hb;rw[fJ,<-aD hx tx]at sa;rw[fJ,<-aD hy ty]at sb;have HX:=ab hx;clear hx;have HY:=ab hy;clear hy;have HTX:=ab tx;clear tx;have HTY:=ab ty;clear ty;have HNX:=ab (aD HX.out HTX.out);have HNY:=ab (aD HY.out HTY.out)
 go_enter func87,ntmps87
 go_wp2;obtain⟨hb0,k1,k2,k3⟩:=AD w #[au s1,ao A n c] #[au s2,ao D m d] #[au TJ,ao Ud 0 0];generalize (((w.alloc (TP #[au s1,ao A n c] 50)).alloc (TP #[au s2,ao D m d] 50)).alloc (TP #[au TJ,ao Ud 0 0] 50))=W at hb0 k1 k2 k3 ⊢;obtain⟨a0,a1⟩:=eW k1;obtain⟨b0,b1⟩:=eW k2;have HK3:=ab k3;clear k3 k1 k2;have HB0:=ab hb0;clear hb0;have hg2:w.heap.size+2<W.heap.size:=HK3.out.lt;have HS:=ab (show ∀w1,Uh (w.heap.size+2) W w1->(w1.cell? ⟨w.heap.size,0,Ud⟩=ho (TR s1)/\w1.cell? ⟨w.heap.size,1,Ud⟩=ho (TK A n c)/\w1.cell? ⟨w.heap.size+1,0,Ud⟩=ho (TR s2)/\w1.cell? ⟨w.heap.size+1,1,Ud⟩=ho (TK D m d)/\Uh (w.heap.size+2) W w1)from
  fun w1 h=>⟨(h.cell (by show w.heap.size<_;omega)).trans a0,(h.cell (by show w.heap.size<_;omega)).trans a1,(h.cell (by show w.heap.size+1<_;omega)).trans b0,(h.cell (by show w.heap.size+1<_;omega)).trans b1,h⟩)
 go_region_held3 (fun w'=>w'.cell? ⟨w.heap.size,0,Ud⟩=ho (TR s1)/\w'.cell? ⟨w.heap.size,1,Ud⟩=ho (TK A n c)/\w'.cell? ⟨w.heap.size+1,0,Ud⟩=ho (TR s2)/\w'.cell? ⟨w.heap.size+1,1,Ud⟩=ho (TK D m d)/\Uh (w.heap.size+2) W w')
  (first|exact HS.out _ (bG _ _).drew|assumption|exact HS.out _ (by assumption))
  (first
   | (go_at_call_of 71 (ao A n c);refine(gC A n c B xs W.drew hnc om (by show B<=W.heap.size;omega) (HX.out.below HB0.out.drew hB)).mono ?_;rintro e w1 ⟨A1,j1,c1,z1,rfl,hj1,hU1,hT1,hv1,hbn⟩;obtain rfl:n=j1:=by { rw[aD hU1 hT1,hv1];exact HNX.out };have hB1:Uh (w.heap.size+2) W w1:=(bG _ W).drew.trans (hbn.mono (by show _<=W.heap.size;omega));have HBa:=ab hbn;clear hbn;have HU1:=ab hU1;clear hU1;have HT1:=ab hT1;clear hT1;have HV1:=ab hv1;clear hv1)
   | (go_at_call_of 71 (ao D m d);refine(gC D m d B ys w1 hmd om (by have:=HBa.out.size;have h2:W.drew.heap.size=W.heap.size:=rfl;omega) (HY.out.below (HB0.out.trans (hB1.mono om)) hB)).mono ?_;rintro e w2 ⟨A2,j2,c2,z2,rfl,hj2,hU2,hT2,hv2,hbn⟩;obtain rfl:m=j2:=by { rw[aD hU2 hT2,hv2];exact HNY.out };have HBb:=ab hbn;clear hbn;have HU2:=ab hU2;clear hU2;have HT2:=ab hT2;clear hT2;have HV2:=ab hv2;clear hv2;have hB2:Uh (w.heap.size+2) W w2:=hB1.trans (HBb.out.mono (by have:=hB1.size;omega))))
 have HB2:=ab hB2;clear hB2 hB1;have HU1':Ur (cE w2 w2.heap.size A1 n z1):=ab ((HU1.out.below HBb.out (ag _)).more HBb.out.size);have HKK:Ur (fX w2 (w.heap.size+2) 50 #[TR TJ,TK Ud 0 0]):=ab ((fX.below (w:=W.drew) HK3.out HBa.out hg2).below HBb.out (by have:=HBa.out.size;have h2:W.drew.heap.size=W.heap.size:=rfl;omega))
 have hz2:w.heap.size+2<w2.heap.size:=HKK.out.lt;obtain⟨c0,c1',c2',c3',_⟩:=HS.out _ HB2.out;clear a0 a1 b0 b1 HU1 HBa HBb;by_cases hs:s1=s2
 .subst hs;have hbq:(s1==s1)=TN:=by simp
  go_wp2
  go_region_held3 (fun w'=>w'.cell? ⟨w.heap.size,0,Ud⟩=ho (TR s1)/\w'.cell? ⟨w.heap.size,1,Ud⟩=ho (TK A n c)/\w'.cell? ⟨w.heap.size+1,0,Ud⟩=ho (TR s1)/\w'.cell? ⟨w.heap.size+1,1,Ud⟩=ho (TK D m d)/\Uh (w.heap.size+2) W w')
   (first|assumption|exact HS.out _ HB2.out.drew|exact HS.out _ (by assumption)|exact HS.out _ (ew (ew (by assumption) sm _) sm _))
   (first
    | (go_at_call 145;refine(NV A1 A2 n m c1 c2 w2.heap.size z1 z2 w2.drew om om (ag _) HU1'.out HU2.out).mono ?_;rintro e w3 ⟨A3,j3,c3,z3,rfl,hj3,hl3,hU3,hv3,hbn⟩;have hB3:Uh (w.heap.size+2) W w3:=HB2.out.drew.trans (hbn.mono (by show _<=w2.heap.size;omega));have HK5:=ab (fX.below (w:=w2.drew) HKK.out hbn hz2);clear hbn;have HU3:=ab hU3;clear hU3;have HV3:=ab hv3;clear hv3;have hz3:=HK5.out.lt)
    | (go_at_call 103;refine(lK s1 A3 j3 c3 w3.heap.size z3 w3 hj3 om (ag _) HU3.out).mono ?_;rintro e w4 ⟨v,rfl,hI,hbn⟩;obtain⟨neg,A4,n4,c4,z4,rfl,hI2⟩:=hI;have hB4:Uh (w.heap.size+2) W w4:=hB3.trans (hbn.mono om);have HI:=ab hI2;clear hI2;have hk3:=HK5.out.below hbn hz3;obtain⟨e0,e1⟩:=eW hk3;have f0:=hk3.frozen 0;have f1:=hk3.frozen 1;have HK4:=ab hk3;clear hk3 hbn))
  go_wp2;exact cQ (v:=Uf #[TR neg,TK A4 n4 c4]) (by simp[UT,Tj,go_sem,e0,e1]) rfl
   (dJ.cell ⟨neg,A4,n4,c4,z4,rfl,HI.out⟩ HK4.out (HB0.out.trans (hB4.mono om)) om (by rw[HV3.out,HV1.out,HV2.out,xK]))
 .have hbq:(s1==s2)=TJ:=by simpa using hs
  rcases aB (bC xs) (bC ys)with hlt|hge
  .have HCM:Ur (lg (bC z1) (bC z2)=-1):=ab (by rw[HV1.out,HV2.out];exact lE hlt)
   have hjj:n<=m:=by rw[HNX.out,HNY.out];exact fM (du hlt)
   have HLE:Ur (bC z1<=bC z2):=ab (by rw[HV1.out,HV2.out];omega)
   have HLT:=ab hlt;clear hlt
   go_wp2_with fail
   refine(l5 A1 A2 n m c1 c2 w2.heap.size z1 z2 w2 om om HU1'.out HU2.out HT1.out HT2.out).mono ?_;rintro e w5 ⟨rfl,hst⟩;rw[HCM.out];obtain⟨q,rfl⟩:=hst;have HU1q:Ur (cE (w2.drewN q) (w2.drewN q).heap.size A1 n z1):=ab HU1'.out;have HU2q:Ur (cE (w2.drewN q) (w2.drewN q).heap.size A2 m z2):=ab HU2.out;have HKq:Ur (fX (w2.drewN q) (w.heap.size+2) 50 #[TR TJ,TK Ud 0 0]):=ab HKK.out;have HB2q:Ur (Uh (w.heap.size+2) W (w2.drewN q)):=ab (HB2.out.trans ((dW.refl w2).more q |>.below _))
   have hzq:w.heap.size+2<(w2.drewN q).heap.size:=hz2;generalize w2.drewN q=wq at HU1q HU2q HKq HB2q hzq ⊢;obtain⟨q0,q1,q2,q3,_⟩:=HS.out _ HB2q.out;clear HB2 HU1' HKK hz2 c0 c1' c2' c3' HU2;go_wp2
   go_region_held3 (fun w'=>w'.cell? ⟨w.heap.size,0,Ud⟩=ho (TR s1)/\w'.cell? ⟨w.heap.size,1,Ud⟩=ho (TK A n c)/\w'.cell? ⟨w.heap.size+1,0,Ud⟩=ho (TR s2)/\w'.cell? ⟨w.heap.size+1,1,Ud⟩=ho (TK D m d)/\Uh (w.heap.size+2) W w')
    (first|assumption|exact HS.out _ HB2q.out.drew|exact HS.out _ (by assumption)|exact HS.out _ (ew (ew (by assumption) sm _) sm _))
    (first
     | (go_at_call 146;refine(lC A2 A1 m n c2 c1 wq.heap.size z2 z1 wq.drew hjj om (ag _) HU2q.out HU1q.out HLE.out).mono ?_;rintro e w3 ⟨A3,j3,c3,z3,rfl,hj3,hl3,hU3,hv3,hbn⟩;have hB3:Uh (w.heap.size+2) W w3:=HB2q.out.drew.trans (hbn.mono (by show _<=wq.heap.size;omega));have HK5:=ab (fX.below (w:=wq.drew) HKq.out hbn hzq);clear hbn;have HU3:=ab hU3;clear hU3;have HV3:=ab hv3;clear hv3;have hz3:=HK5.out.lt)
     | (go_at_call 103;refine(lK s2 A3 j3 c3 w3.heap.size z3 w3 hj3 om (ag _) HU3.out).mono ?_;rintro e w4 ⟨v,rfl,hI,hbn⟩;obtain⟨neg,A4,n4,c4,z4,rfl,hI2⟩:=hI;have hB4:Uh (w.heap.size+2) W w4:=hB3.trans (hbn.mono om);have HI:=ab hI2;clear hI2;have hk3:=HK5.out.below hbn hz3;obtain⟨e0,e1⟩:=eW hk3;have f0:=hk3.frozen 0;have f1:=hk3.frozen 1;have HK4:=ab hk3;clear hk3 hbn))
   go_wp2;exact cQ (v:=Uf #[TR neg,TK A4 n4 c4]) (by simp[UT,Tj,go_sem,e0,e1]) rfl
    (dJ.cell ⟨neg,A4,n4,c4,z4,rfl,HI.out⟩ HK4.out (HB0.out.trans (hB4.mono om)) om (by rw[HV3.out,HV1.out,HV2.out];exact B7 hs (du HLT.out)))
  .have HCM:Ur (0<=lg (bC z1) (bC z2)):=ab (by
    rw[HV1.out,HV2.out];rcases aB (bC ys) (bC xs)with h|h
    .rw[kD h];omega
    .rw[lF om];omega)
   have hjj:m<=n:=by rw[HNX.out,HNY.out];exact fM hge
   have HLE:Ur (bC z2<=bC z1):=ab (by rw[HV1.out,HV2.out];omega)
   have HGE:=ab hge;clear hge
   go_wp2_with fail
   refine(l5 A1 A2 n m c1 c2 w2.heap.size z1 z2 w2 om om HU1'.out HU2.out HT1.out HT2.out).mono ?_;rintro e w5 ⟨rfl,hst⟩;have hcm:=HCM.out;have hcm2:=(qC (bC z1) (bC z2)).2;generalize lg (bC z1) (bC z2)=cm at hcm hcm2 ⊢;obtain⟨q,rfl⟩:=hst;have HU1q:Ur (cE (w2.drewN q) (w2.drewN q).heap.size A1 n z1):=ab HU1'.out;have HU2q:Ur (cE (w2.drewN q) (w2.drewN q).heap.size A2 m z2):=ab HU2.out;have HKq:Ur (fX (w2.drewN q) (w.heap.size+2) 50 #[TR TJ,TK Ud 0 0]):=ab HKK.out;have HB2q:Ur (Uh (w.heap.size+2) W (w2.drewN q)):=ab (HB2.out.trans ((dW.refl w2).more q |>.below _))
   have hzq:w.heap.size+2<(w2.drewN q).heap.size:=hz2;generalize w2.drewN q=wq at HU1q HU2q HKq HB2q hzq ⊢;obtain⟨q0,q1,q2,q3,_⟩:=HS.out _ HB2q.out;clear HB2 HU1' HKK hz2 c0 c1' c2' c3' HU2;go_wp2
   go_region_held3 (fun w'=>w'.cell? ⟨w.heap.size,0,Ud⟩=ho (TR s1)/\w'.cell? ⟨w.heap.size,1,Ud⟩=ho (TK A n c)/\w'.cell? ⟨w.heap.size+1,0,Ud⟩=ho (TR s2)/\w'.cell? ⟨w.heap.size+1,1,Ud⟩=ho (TK D m d)/\Uh (w.heap.size+2) W w')
    (first|assumption|exact HS.out _ HB2q.out.drew|exact HS.out _ (by assumption)|exact HS.out _ (ew (ew (by assumption) sm _) sm _))
    (first
     | (go_at_call 146;refine(lC A1 A2 n m c1 c2 wq.heap.size z1 z2 wq.drew hjj om (ag _) HU1q.out HU2q.out HLE.out).mono ?_;rintro e w3 ⟨A3,j3,c3,z3,rfl,hj3,hl3,hU3,hv3,hbn⟩;have hB3:Uh (w.heap.size+2) W w3:=HB2q.out.drew.trans (hbn.mono (by show _<=wq.heap.size;omega));have HK5:=ab (fX.below (w:=wq.drew) HKq.out hbn hzq);clear hbn;have HU3:=ab hU3;clear hU3;have HV3:=ab hv3;clear hv3;have hz3:=HK5.out.lt)
     | (go_at_call 103;refine(lK s1 A3 j3 c3 w3.heap.size z3 w3 hj3 om (ag _) HU3.out).mono ?_;rintro e w4 ⟨v,rfl,hI,hbn⟩;obtain⟨neg,A4,n4,c4,z4,rfl,hI2⟩:=hI;have hB4:Uh (w.heap.size+2) W w4:=hB3.trans (hbn.mono om);have HI:=ab hI2;clear hI2;have hk3:=HK5.out.below hbn hz3;obtain⟨e0,e1⟩:=eW hk3;have f0:=hk3.frozen 0;have f1:=hk3.frozen 1;have HK4:=ab hk3;clear hk3 hbn))
   go_wp2;exact cQ (v:=Uf #[TR neg,TK A4 n4 c4]) (by simp[UT,Tj,go_sem,e0,e1]) rfl
    (dJ.cell ⟨neg,A4,n4,c4,z4,rfl,HI.out⟩ HK4.out (HB0.out.trans (hB4.mono om)) om (by rw[HV3.out,HV1.out,HV2.out];exact wv hs HGE.out))

def KO(va vb:TM)(za zb:Int)(B:Nat)(w:TO)(hB:B<=w.heap.size)(ha:eC w B va za)(hb:eC w B vb zb)(sa:nl za.natAbs<=1073741824)(sb:nl zb.natAbs<=1073741824) :
  Uq ak 66 #[va,vb] w (dJ w (za-zb)):=by
 have HA:=ab ha;have HBv:=ab hb;have HSA:=ab sa;clear sa;have HSB:=ab sb;clear sb;obtain⟨s1,A,n,c,xs,rfl,hnc,hx,tx,rfl⟩:=ha;obtain⟨s2,D,m,d,ys,rfl,hmd,hy,ty,rfl⟩:=hb;clear hx tx hy ty
 go_enter func66,ntmps66
 go_wp2;obtain⟨hb0,k1,k2,k3⟩:=AD w #[au s1,ao A n c] #[au s2,ao D m d] #[au TJ,ao Ud 0 0];generalize (((w.alloc (TP #[au s1,ao A n c] 50)).alloc (TP #[au s2,ao D m d] 50)).alloc (TP #[au TJ,ao Ud 0 0] 50))=W at hb0 k1 k2 k3 ⊢;obtain⟨a0,a1⟩:=eW k1;obtain⟨b0,b1⟩:=eW k2;have HK3:=ab k3;clear k3 k1 k2;have HB0:=ab hb0;clear hb0;have hg2:w.heap.size+2<W.heap.size:=HK3.out.lt;have HS:=ab (show ∀w1,Uh (w.heap.size+2) W w1->(w1.cell? ⟨w.heap.size,0,Ud⟩=ho (TR s1)/\w1.cell? ⟨w.heap.size,1,Ud⟩=ho (TK A n c)/\w1.cell? ⟨w.heap.size+1,0,Ud⟩=ho (TR s2)/\w1.cell? ⟨w.heap.size+1,1,Ud⟩=ho (TK D m d)/\Uh (w.heap.size+2) W w1)from
  fun w1 h=>⟨(h.cell (by show w.heap.size<_;omega)).trans a0,(h.cell (by show w.heap.size<_;omega)).trans a1,(h.cell (by show w.heap.size+1<_;omega)).trans b0,(h.cell (by show w.heap.size+1<_;omega)).trans b1,h⟩)
 go_region_held3 (fun w'=>w'.cell? ⟨w.heap.size,0,Ud⟩=ho (TR s1)/\w'.cell? ⟨w.heap.size,1,Ud⟩=ho (TK A n c)/\w'.cell? ⟨w.heap.size+1,0,Ud⟩=ho (TR s2)/\w'.cell? ⟨w.heap.size+1,1,Ud⟩=ho (TK D m d)/\Uh (w.heap.size+2) W w')
  (first|exact HS.out _ (bG _ _).drew|assumption|exact HS.out _ (by assumption)|exact HS.out _ (ew (ew (by assumption) sm _) sm _))
  (first
   | (go_at_call 68;refine(CD _ _ B W.drew (by show B<=W.heap.size;omega) (HBv.out.below HB0.out.drew hB) (by have:=HSB.out;omega)).mono ?_;rintro e w1 ⟨v,rfl,hI1,hbn⟩;have HI1:=ab hI1;clear hI1;have hB1:Uh (w.heap.size+2) W w1:=(bG _ W).drew.trans (hbn.mono (by show _<=W.heap.size;omega));have HK2:=ab (fX.below (w:=W.drew) HK3.out hbn hg2);clear hbn;have hsz:=HK2.out.lt)
   | (go_at_call 87;refine(CQ _ _ _ _ w1.heap.size w1 (ag _) ((HA.out.below (HB0.out.trans (hB1.mono om)) hB).more om) HI1.out HSA.out (by rw[TG];exact HSB.out)).mono ?_;rintro e w2 ⟨v,rfl,hI,hbn⟩;obtain⟨neg,A2,n2,c2,zs2,rfl,hI2⟩:=hI;have hB2:Uh (w.heap.size+2) W w2:=hB1.trans (hbn.mono om);have HI:=ab hI2;clear hI2;have hk3:=HK2.out.below hbn hsz;obtain⟨e0,e1⟩:=eW hk3;have f0:=hk3.frozen 0;have f1:=hk3.frozen 1;have HK4:=ab hk3;clear hk3 hbn))
 go_wp2;exact cQ (v:=Uf #[TR neg,TK A2 n2 c2]) (by simp[UT,results66,go_sem,e0,e1]) rfl
   (dJ.cell ⟨neg,A2,n2,c2,zs2,rfl,HI.out⟩ HK4.out (HB0.out.trans (hB2.mono om)) om om)
def K7(va vb:TM)(za zb:Int)(B:Nat)(w:TO)(hB:B<=w.heap.size)(ha:eC w B va za)(hb:eC w B vb zb)(sa:nl za.natAbs<=1073741824)(sb:nl zb.natAbs<=1073741824) :
  Uq ak 30 #[va,vb] w fun e w'=>e=.returned (TQ Uc (kC za zb))/\Uh w.heap.size w w':=by
 have hA:=ha;have hBb:=hb;have HS0:=ab sa;have HS1:=ab sb;obtain⟨s1,A,n,c,xs,rfl,hnc,hx,tx,rfl⟩:=ha;obtain⟨s2,D,m,d,ys,rfl,hmd,hy,ty,rfl⟩:=hb;rw[fJ,<-aD hx tx]at sa;rw[fJ,<-aD hy ty]at sb;have HA:=ab hA;clear hA;have HBb:=ab hBb;clear hBb;have HX:=ab hx;clear hx;have HY:=ab hy;clear hy;have HTX:=ab tx;clear tx;have HTY:=ab ty;clear ty;have HZ:=ab (@Ax (sg s1 (bC xs)) (sg s2 (bC ys)));have HZ2:=ab (@Cp s1 s2 (bC xs) (bC ys));have HP:Ur (-1<=(sg s1 (bC xs)).sign/\(sg s1 (bC xs)).sign<=1):=ab (by rcases nR s1 (bC xs)with h|h|h<;>omega)
 generalize hp:(sg s1 (bC xs)).sign=p at HZ HZ2 HP;generalize hq:(sg s2 (bC ys)).sign=q at HZ HZ2;generalize hcz:kC (sg s1 (bC xs)) (sg s2 (bC ys))=r at HZ HZ2 ⊢;have hcr:=qC (bC xs) (bC ys);generalize hcm:lg (bC xs) (bC ys)=cm at HZ2 hcr;have Hp:=ab hp;clear hp;have Hq:=ab hq;clear hq;have Hcm:=ab hcm;clear hcm;clear hcz
 go_enter func30,ntmps30
 go_wp2;obtain⟨hb0,k1,k2⟩:=rF w #[au s1,ao A n c] #[au s2,ao D m d];generalize ((w.alloc (TP #[au s1,ao A n c] 50)).alloc (TP #[au s2,ao D m d] 50))=W at hb0 k1 k2 ⊢;obtain⟨a0,a1⟩:=eW k1;obtain⟨b0,b1⟩:=eW k2;have HB0:=ab hb0;clear hb0;have hg2:w.heap.size+1<W.heap.size:=k2.lt;have hg1:w.heap.size+2<=W.heap.size:=hg2;clear k1 k2;have HS:=ab (show ∀w1,Uh (w.heap.size+2) W w1->(w1.cell? ⟨w.heap.size,0,Ud⟩=ho (TR s1)/\w1.cell? ⟨w.heap.size,1,Ud⟩=ho (TK A n c)/\w1.cell? ⟨w.heap.size+1,0,Ud⟩=ho (TR s2)/\w1.cell? ⟨w.heap.size+1,1,Ud⟩=ho (TK D m d)/\Uh (w.heap.size+2) W w1)from
  fun w1 h=>⟨(h.cell (by show w.heap.size<_;omega)).trans a0,(h.cell (by show w.heap.size<_;omega)).trans a1,(h.cell (by show w.heap.size+1<_;omega)).trans b0,(h.cell (by show w.heap.size+1<_;omega)).trans b1,h⟩)
 go_region_held3 (fun w'=>w'.cell? ⟨w.heap.size,0,Ud⟩=ho (TR s1)/\w'.cell? ⟨w.heap.size,1,Ud⟩=ho (TK A n c)/\w'.cell? ⟨w.heap.size+1,0,Ud⟩=ho (TR s2)/\w'.cell? ⟨w.heap.size+1,1,Ud⟩=ho (TK D m d)/\Uh (w.heap.size+2) W w')
  (first|exact HS.out _ (bG _ _).drew|assumption|exact HS.out _ (by assumption))
  (first
   | (go_at_call_of 64 (Uf #[au s1,ao A n c]);refine(tA _ _ B W.drew (by show B<=W.heap.size;omega) (HA.out.below HB0.out.drew hB) (by have:=HS0.out;omega)).mono ?_;rintro e w1 ⟨rfl,hbn⟩;rw[Hp.out];have hB1:Uh (w.heap.size+2) W w1:=(bG _ W).drew.trans (hbn.mono hg1);clear hbn)
   | (go_at_call_of 64 (Uf #[au s2,ao D m d]);refine(tA _ _ B w1 (by have:=hB1.size;omega) (HBb.out.below (HB0.out.trans (hB1.mono om)) hB) (by have:=HS1.out;omega)).mono ?_;rintro e w2 ⟨rfl,hbn⟩;rw[Hq.out];have hB2:Uh (w.heap.size+2) W w2:=hB1.trans (hbn.mono (by have:=hB1.size;omega));clear hbn hB1))
 have HB2:=ab hB2;obtain⟨c0,c1,c2,c3,_⟩:=HS.out _ hB2;clear hB2 a0 a1 b0 b1;rcases ej p q with hlt|heq|hgt
 .have HR:=ab (HZ.out.1 hlt);have hne:(p != q)=TN:=by simp;omega
  have hne2:¬p=q:=om
  go_wp2;go_ret;exact⟨by rw[HR.out];rfl,HB0.out.trans (HB2.out.mono om)⟩
 .subst heq;have HR:=ab (HZ2.out rfl);have HNX:=ab (aD HX.out HTX.out);have HNY:=ab (aD HY.out HTY.out);have hz2:w.heap.size+2<=w2.heap.size:=by have:=HB2.out.size;omega
  have HC:=ab (show ∀w1,Uh (w.heap.size+2) W w1->w1.cell? ⟨w.heap.size,1,Ud⟩=ho (TK A n c)/\w1.cell? ⟨w.heap.size+1,1,Ud⟩=ho (TK D m d)/\Uh (w.heap.size+2) W w1 from fun w1 h=>⟨(HS.out w1 h).2.1,(HS.out w1 h).2.2.2.1,h⟩);have hp3:p=-1∨p=0∨p=1:=by have:=HP.out;omega
  clear HZ HZ2;rcases hp3 with rfl|rfl|rfl
  all_goals
   go_wp2
   go_region_held3 (fun w'=>w'.cell? ⟨w.heap.size,1,Ud⟩=ho (TK A n c)/\w'.cell? ⟨w.heap.size+1,1,Ud⟩=ho (TK D m d)/\Uh (w.heap.size+2) W w')
    (first|assumption|exact HC.out _ HB2.out.drew|exact HC.out _ (by assumption))
    (first
     | (go_at_call_of 71 (ao A n c);refine(gC A n c B xs w2.drew hnc om (by show B<=w2.heap.size;omega) (HX.out.below (HB0.out.trans (HB2.out.mono om)).drew hB)).mono ?_;rintro e w3 ⟨A1,j1,c1,z1,rfl,hj1,hU1,hT1,hv1,hbn⟩;obtain rfl:n=j1:=by { rw[aD hU1 hT1,hv1];exact HNX.out };have hB3:Uh (w.heap.size+2) W w3:=HB2.out.drew.trans (hbn.mono (by show _<=w2.heap.size;omega));clear hbn;have HU1:=ab hU1;clear hU1;have HT1:=ab hT1;clear hT1;have HV1:=ab hv1;clear hv1)
     | (go_at_call_of 71 (ao D m d);refine(gC D m d B ys w3 hmd om (by have:=hB3.size;omega) (HY.out.below (HB0.out.trans (hB3.mono om)) hB)).mono ?_;rintro e w4 ⟨A2,j2,c2,z2,rfl,hj2,hU2,hT2,hv2,hbn⟩;obtain rfl:m=j2:=by { rw[aD hU2 hT2,hv2];exact HNY.out };have HBb:=ab hbn;clear hbn;have HU2:=ab hU2;clear hU2;have HT2:=ab hT2;clear hT2;have HV2:=ab hv2;clear hv2;have hB4:Uh (w.heap.size+2) W w4:=hB3.trans (HBb.out.mono (by have:=hB3.size;omega)))
     | (go_at_call 70;refine(l5 A1 A2 n m c1 c2 w4.heap.size z1 z2 w4 om om ((HU1.out.below HBb.out (ag _)).more HBb.out.size) HU2.out HT1.out HT2.out).mono ?_;rintro e w5 ⟨rfl,hst⟩;rw[HV1.out,HV2.out,Hcm.out];have hB5:Uh (w.heap.size+2) W w5:=hB4.trans (hst.below _);clear hst))
   go_wp2;go_ret;exact⟨by rw[<-HR.out];first|rfl|(simp;first|done|exact Dz om om),HB0.out.trans (hB5.mono om)⟩
 .have HR:=ab (HZ.out.2 hgt);have hn:¬p<q:=om
  have hne:(p != q)=TN:=by simp;omega
  have hne2:¬p=q:=om
  go_wp2;go_ret;exact⟨by rw[HR.out];rfl,HB0.out.trans (HB2.out.mono om)⟩

def yO(A:Option Ve)(n c L:Nat)(xs:List Nat)(w:TO)(hn:n<=2)(hx:cE w L A n xs) :
  Uq ak 128 #[TK A n c] w fun e w'=>e=.returned (TQ Uj (bC xs))/\w=w':=by
 have HX:=ab hx;clear hx
 go_enter func128,ntmps128
 go_wp2
 go_loop [3,4] (fun v i=>∃k:Nat,k<=n/\i=TQ Uc k/\v=TQ Uj (bC (xs.take k))) (fun _ i=>n-(Uu i).toNat)
 case atStart=>exact⟨0,lq _,rfl,by simp[bC]⟩
 case round =>
  obtain⟨k,hk,rfl,rfl⟩:=hrel;by_cases hkn:k<n
  .obtain⟨ad,x,rfl,_,hxx,hx4,h1⟩:=HX.out.at_ hkn;have HXX:=ab hxx;clear hxx;have hv:=ju (HX.out.2.1.take k);have hk2:k=0∨k=1:=om
   rcases hk2 with rfl|rfl
   .simp only[Addr.add,aj]at h1;have hn0:(0:Int)<n:=om
    go_wp2;refine⟨⟨1,om,rfl,?_⟩,by simp[Uu];omega⟩
    have hx1:xs.take 1=[x]:=by
     rw[nK (by rw[HX.out.1];omega)]
     have:=HXX.out;simp only[df,bE (show 0<xs.length by rw[HX.out.1];omega),iE]at this
     simp[this]
    rw[hx1];have h5:=yo 0 x om om;simp only[Nat.zero_or]at h5;simpa [bC]using h5
   .simp only[Addr.add,Tp,aI]at h1;have hn0:(1:Int)<n:=om
    go_wp2;refine⟨⟨2,om,rfl,?_⟩,by simp[Uu];omega⟩
    rw[dZ xs 1 (by rw[HX.out.1];omega),HXX.out]
    simp only[gN]at hv;rw[zq (cZ hv (by
     rw[HX.out.1,it om];omega)) hx4,SI,aA x]
  .obtain rfl:k=n:=om
   have hkk:¬(k:Int)<k:=om
   go_wp2;go_ret;exact⟨by rw[bS (by rw[HX.out.1];exact ag _)];rfl,rfl⟩
def KR(va vb:TM)(za zb:Int)(B:Nat)(w:TO)(hB:B<=w.heap.size)(ha:eC w B va za)(hb:eC w B vb zb)(sa:nl za.natAbs<=268435456)(sb:nl zb.natAbs<=268435456) :
  Uq ak 67 #[va,vb] w (dJ w (za*zb)):=by
 obtain⟨s1,A,n,c,xs,rfl,hnc,hx,tx,rfl⟩:=ha;obtain⟨s2,D,m,d,ys,rfl,hmd,hy,ty,rfl⟩:=hb;rw[fJ,<-aD hx tx]at sa;rw[fJ,<-aD hy ty]at sb;have HX:=ab hx;clear hx;have HY:=ab hy;clear hy;clear tx ty;have hmk:=Dt (n+m) om;rw[ef]at hmk
 go_enter func67,ntmps67
 go_wp2;clear hmk;obtain⟨hb0,k1,k2,k3⟩:=AD w #[au s1,ao A n c] #[au s2,ao D m d] #[au TJ,ao Ud 0 0];have hWs:(((w.alloc (TP #[au s1,ao A n c] 50)).alloc (TP #[au s2,ao D m d] 50)).alloc (TP #[au TJ,ao Ud 0 0] 50)).heap.size=w.heap.size+1+1+1:=by simp
 generalize (((w.alloc (TP #[au s1,ao A n c] 50)).alloc (TP #[au s2,ao D m d] 50)).alloc (TP #[au TJ,ao Ud 0 0] 50))=W at hb0 k1 k2 k3 hWs ⊢;rw[<-hWs];have HK1:=ab k1;clear k1;have HK2:=ab k2;clear k2;have HK3:=ab k3;clear k3;have HB0:=ab hb0;clear hb0;have hWs2:w.heap.size+3=W.heap.size:=om
 have HXW:Ur (cE W B A n xs):=ab (HX.out.below HB0.out hB);have HYW:Ur (cE W B D m ys):=ab (HY.out.below HB0.out hB);have HL:Ur (B<=W.heap.size):=ab om;have HCC:Ur (∀wr,Uh W.heap.size W wr->(wr.cell? ⟨w.heap.size,0,Ud⟩=ho (TR s1)/\wr.cell? ⟨w.heap.size,1,Ud⟩=ho (TK A n c))/\(wr.cell? ⟨w.heap.size+1,0,Ud⟩=ho (TR s2)/\wr.cell? ⟨w.heap.size+1,1,Ud⟩=ho (TK D m d))):=ab (fun wr h=>⟨eW (HK1.out.below h om),eW (HK2.out.below h om)⟩);have HWS:=ab hWs;clear hWs;have HWS2:=ab hWs2;clear hWs2
 go_loopw [22] (fun iv wr=>∃(i:Nat) (ps:List Nat),i<=n/\iv=TQ Uc i/\Ur (iD W wr ps)/\Ur (kK ps xs ys i)) (fun iv _=>n-(Uu iv).toNat)
 case atStart=>exact⟨0,_,om,rfl,ab (iD.start W (n+m)),ab (kK.init xs ys (n+m) (by rw[HX.out.1,HY.out.1]))⟩
 case round =>
  obtain⟨i,ps,hi,rfl,HF,HS⟩:=hrel;obtain⟨⟨q0,q1⟩,⟨q2,q3⟩⟩:=HCC.out _ HF.out.1;by_cases hin:i<n
  .obtain⟨ad,x,rfl,hab,hxx,hx4,hcx⟩:=(HXW.out.below HF.out.1 HL.out).at_ (k:=i) om;have HXX:=ab hxx;clear hxx;have hin':(i:Int)<n:=om
   have hi0:(0:Int)<=i:=om
   go_wp2
   go_loopw [8,30] (fun cv jv wr'=>∃(j car:Nat) (qs:List Nat),j<=m/\jv=TQ Uc j/\cv=TQ Uj car/\car<4294967296/\Ur (iD W wr' qs)/\Ur (sU ps qs ys x i j car)) (fun _ jv _=>m-(Uu jv).toNat)
   case atStart=>exact⟨0,0,ps,om,rfl,rfl,om,HF,ab HS.out.start⟩
   case round =>
    clear HF hcx q0 q1 q2 q3;obtain⟨j,car,qs,hj,rfl,rfl,hcar,HG,HI⟩:=hrel;have hql:qs.length=n+m:=by rw[HI.out.len,HS.out.len,HX.out.1,HY.out.1]
    obtain⟨⟨q0,q1⟩,⟨q2,q3⟩⟩:=HCC.out _ HG.out.1;by_cases hjm:j<m
    .obtain⟨bd,y,rfl,hbb,hyy,hy4,hcy⟩:=(HYW.out.below HG.out.1 HL.out).at_ (k:=j) om;have HYY:=ab hyy;clear hyy;obtain⟨hcp,hfp⟩:=HG.out.at_ (i+j) om;have hp4:=HI.out.lim.getD (i+j);generalize hpp:qs.getD (i+j) 0=p at hcp hp4;have HPP:=ab hpp;clear hpp;obtain⟨z,hz,hz4⟩:∃z:Nat,x*y=z/\z<=18446744065119617025:=⟨_,rfl,ob hx4 hy4⟩;have hzi:(x:Int)*(y:Int)=(z:Int):=by rw[<-hz];simp
     have HZ:=ab hz;clear hz;have hjm':(j:Int)<m:=om
     have hj0:(0:Int)<=j:=om
     have hij:(i:Int)+j<n+m:=om
     have hij0:(0:Int)<=(i:Int)+j:=om
     have hIJ:((i:Int)+(j:Int)).toNat=i+j:=om
     go_wp2
     go_roundw
     case rel =>
      have h5:=HI.out.step (by rw[HY.out.1];exact hjm) om HYY.out HPP.out hx4 hy4 hp4
      have h6:=HG.out.put (i+j) ((car+(x*y+p))%4294967296);rw[HZ.out]at h5 h6;exact⟨j+1,(car+(z+p))/4294967296,_,om,by go_num,by go_num,om,ab (by simpa using h6),ab h5⟩
     case measure=>simp[Uu];omega
    .obtain rfl:j=m:=om
     obtain⟨hcp,hfp⟩:=HG.out.at_ (i+j) om;have HN:=ab (HS.out.next HI.out HY.out.1 (by rw[HX.out.1];exact hin) HXX.out)
     have HP:=ab (HG.out.put (i+j) car);have hj0:(0:Int)<=j:=om
     have hij:(i:Int)+j<n+j:=om
     have hij0:(0:Int)<=(i:Int)+j:=om
     have hIJ:((i:Int)+(j:Int)).toNat=i+j:=om
     go_wp2
     go_roundw
     case rel=>exact⟨i+1,_,om,by go_num,ab (by simpa using HP.out),HN⟩
     case measure=>simp[Uu];omega
  .obtain rfl:i=n:=om
   have hii:¬(i:Int)<i:=om
   go_wp2_with fail
   have hl:=HS.out.len;rw[HX.out.1,HY.out.1]at hl;have hU:=cE.ofBlk HF.out.2 HS.out.lim HF.out.2.lt rfl;rw[hl]at hU;have hv:=HS.out.eq;rw[bS (by rw[HX.out.1];exact ag _)]at hv
   have HBn:=ab HF.out.1;have HK:Ur (fX wr (w.heap.size+2) 50 #[TR TJ,TK Ud 0 0]):=ab (HK3.out.below HBn.out (by have:=HWS2.out;omega))
   have HV:=ab hv;clear hv;have hwr:w.heap.size+3<=wr.heap.size:=by have:=HBn.out.size;have:=HWS2.out;omega
   have HBW:Ur (Uh w.heap.size w wr):=ab (HB0.out.trans (HBn.out.mono (by have:=HWS2.out;omega)))
   refine(lK (s1 != s2) _ _ _ _ _ _ (ag _) om (ag _) hU).mono ?_;clear hU hl;rintro e w2 ⟨v,rfl,hI,hb2⟩;obtain⟨neg,A2,n2,c2,zs2,rfl,hI2⟩:=hI;have hblk:fX w2 (w.heap.size+2) 50 #[TR TJ,TK Ud 0 0]:=fX.below (w:=wr) HK.out hb2 om;obtain⟨e0,e1⟩:=eW hblk;have f0:=hblk.frozen 0;have f1:=hblk.frozen 1;have HK2:=ab hblk;clear hblk;have HI:=ab hI2;clear hI2;have HB2:=ab hb2;clear hb2;go_wp2;exact cQ (v:=Uf #[TR neg,TK A2 n2 c2]) (by simp[UT,results67,go_sem,e0,e1]) rfl
    (dJ.cell ⟨neg,A2,n2,c2,zs2,rfl,HI.out⟩ HK2.out (HBW.out.trans (HB2.out.mono (by first|omega|(simp;done)|(simp;omega)))) om (by rw[HV.out,LE]))

def Eh(va:TM)(za:Int)(B:Nat)(w:TO)(hB:B<=w.heap.size)(ha:eC w B va za)(hz:gU za) :
  Uq ak 72 #[va] w fun e w'=>e=.returned (UB #[TQ Uc za,TR TN])/\Uh w.heap.size w w':=by
 obtain⟨s1,A,n,c,xs,rfl,hnc,hx,tx,rfl⟩:=ha;obtain⟨hz1,hz2⟩:=hz;have hn:n<=2:=by
  rw[aD hx tx];refine jR.2 ?_;have:(sg s1 (bC xs)).natAbs=bC xs:=fJ s1 (bC xs);omega
 have hb0:=(bG w.heap.size w).alloc (ag _) (TP #[au s1,ao A n c] 50);have HU:=ab (hx.below hb0 hB);have HN:=ab (aD hx tx);have HX:=ab hx;clear hx;have HTX:=ab tx;clear tx;have HB:=ab hb0;clear hb0;have HK:=ab (fX.new w 50 #[au s1,ao A n c])
 cases s1
 .have hv:(sg TJ (bC xs))=(bC xs:Int):=by simp[sg]
  rw[hv]at hz1 hz2 ⊢;clear hv;generalize hvv:bC xs=v at hz1 hz2 ⊢;have HV:=ab hvv;clear hvv
  go_enter func72,ntmps72
  go_wp2_with fail
  refine(gC A n c B xs _ hnc om (by simp;omega) HU.out).mono ?_
  rintro e w1 ⟨A1,k,c1,zs,rfl,hk,hU1,hT1,hv1,hb1⟩;have hkn:n=k:=by rw[aD hU1 hT1,hv1];exact HN.out
  subst hkn;have hblk:=HK.out.below hb1 sm
  obtain⟨e0,e1⟩:=eW hblk;have HBB:=ab (HB.out.trans (hb1.mono sm))
  have HU1:=ab hU1;clear hU1;have HV1:=ab hv1;clear hv1;clear hblk hb1 hT1
  go_wp2_with fail
  refine(yO A1 n c1 _ zs _ hn HU1.out).mono ?_;rintro e w' ⟨rfl,rfl⟩;rw[HV1.out,HV.out];have hw:IntKind.i64.wrap (v:Int)=v:=Dz om om;have hl:(v:Int)<9223372036854775808:=om
  have hn3:¬(2:Int)<n:=om
  have hn4:decide ((2:Int)<n)=TJ:=by simpa using hn3
  clear hn hn3;have Hz1:=ab hz1;clear hz1;have Hz2:=ab hz2;clear hz2;go_wp2;go_ret2;exact⟨rfl,HBB.out⟩
 .have hv:(sg TN (bC xs))=-(bC xs:Int):=by simp[sg]
  rw[hv]at hz1 hz2 ⊢;clear hv;generalize hvv:bC xs=v at hz1 hz2 ⊢;have HV:=ab hvv;clear hvv
  go_enter func72,ntmps72
  go_wp2_with fail
  refine(gC A n c B xs _ hnc om (by simp;omega) HU.out).mono ?_
  rintro e w1 ⟨A1,k,c1,zs,rfl,hk,hU1,hT1,hv1,hb1⟩;have hkn:n=k:=by rw[aD hU1 hT1,hv1];exact HN.out
  subst hkn;have hblk:=HK.out.below hb1 sm
  obtain⟨e0,e1⟩:=eW hblk;have HBB:=ab (HB.out.trans (hb1.mono sm))
  have HU1:=ab hU1;clear hU1;have HV1:=ab hv1;clear hv1;clear hblk hb1 hT1
  go_wp2_with fail
  refine(yO A1 n c1 _ zs _ hn HU1.out).mono ?_;rintro e w' ⟨rfl,rfl⟩;rw[HV1.out,HV.out];have hw:IntKind.i64.wrap (IntKind.u64.wrap (-(v:Int)))=-(v:Int):=by rw[ci,pU];omega
  have hl:(v:Int)<=9223372036854775808:=om
  have Hz1:=ab hz1;clear hz1;have Hz2:=ab hz2;clear hz2;go_wp2;go_ret2;exact⟨rfl,HBB.out⟩

structure Dbl(xs zs:List Nat)(b0 k car:Nat):Prop where
 len:zs.length=k
 lim:mX zs
 eq:bC zs+car*4294967296^k=2*bC (xs.take k)+b0
 car:car<=1
def Q7{y:Nat}(a:c<=1):2*y ||| c=2*y+c:=by
 have h:=kE (i:=1) (b:=c) om y;rw[tI]at h;rw[aA 2 y,<-SI 2,<-h]
def Gq{x:Nat}(a:c<=1):Vp .or UH ((x:Int)*2%4294967296) (c:Int)=((2*x%4294967296+c:Nat):Int):=by
 have h:=To (2*(x%2147483648)) c om om;rw[Q7 a]at h;have e:((x:Int)*2%4294967296)=((2*(x%2147483648):Nat):Int):=om
 rw[e];have b:2*x%4294967296=2*(x%2147483648):=om
 rw[b,<-h]
def Dbl.step{b0 car x:Nat}(h:Dbl xs zs b0 k car)(a:xs.getD k 0=x)(c:x<4294967296):Dbl xs (zs++[2*x%4294967296+car]) b0 (k+1) (x/2147483648):=by
 have d:=h.car;refine⟨by simp[h.len],h.lim.snoc om,?_,om⟩
 rw[iC,h.len,jq,a,bZ];have e:=h.eq;have b:2*x%4294967296+4294967296*(x/2147483648)=2*x:=om
 generalize 2*x%4294967296=u at *;generalize x/2147483648=v at *;generalize (4294967296:Nat)^k=p at *;have f:p*(u+4294967296*v)=p*(2*x):=by rw[b]
 grind
def Ar(A:Option Ve)(n c L b0:Nat)(xs:List Nat)(w:TO)(hn:n<=2147483648)(hL:L<=w.heap.size)(hx:cE w L A n xs)(hb0:b0<=1) :
  Uq ak 237 #[TK A n c,TQ UH b0] w (Id w (2*bC xs+b0) (n+1)):=by
 have HX:=ab hx;clear hx
 go_enter func237,ntmps237
 go_wp2
 go_loopw [1,5,10] (fun cv ov iv wr=>∃(k car:Nat) (zs:List Nat),k<=n/\iv=TQ Uc k/\cv=TQ UH car/\car<=1/\Ur (AU w wr ov zs)/\Ur (Dbl xs zs b0 k car)) (fun _ _ iv _=>n-(Uu iv).toNat)
 case atStart=>exact⟨0,b0,[],om,rfl,rfl,om,ab (AU.start w),ab ⟨rfl,by simp[mX],by simp[bC],om⟩⟩
 case round =>
  obtain⟨k,car,zs,hk,rfl,rfl,hcar,HO,HS⟩:=hrel;have hzl:=HS.out.len;have hk0:(0:Int)<=k:=om
  by_cases hkn:k<n
  .obtain⟨ad,x,rfl,hab,hxx,hx4,h1⟩:=(HX.out.below HO.out.2 hL).at_ (k:=k) hkn;have HXX:=ab hxx;clear hxx;have hkn':(k:Int)<n:=om
   have HPI:Ur (Vp .or UH ((x:Int)*2%4294967296) (car:Int)=((2*x%4294967296+car:Nat):Int)):=ab (Gq hcar)
   go_wp2_with (at_builtin;rw[HPI.out];refine gX rfl _ _ rfl w _ _ zs rfl HO.out (2*x%4294967296+car) _ rfl om ?_)
   intro v' w1 hO;have HO1:=ab hO;clear hO;go_wp2
   go_roundw
   case rel=>exact⟨k+1,x/2147483648,_,om,by go_num,by go_num,om,HO1,ab (HS.out.step HXX.out hx4)⟩
   case measure=>simp[Uu];omega
  .have hkn':¬(k:Int)<n:=om
   go_wp2_with (at_builtin;refine gX rfl _ _ rfl w _ _ zs rfl HO.out car _ rfl om ?_)
   intro v' w1 hO;obtain⟨A',c',rfl⟩:=hO.slice;obtain⟨hU,hc⟩:=cE.ofOwn hO.1 (HS.out.lim.snoc om);have HU:=ab hU;have HB:=ab hO.2;have hv:bC (zs++[car])=2*bC xs+b0:=by
    have h5:=HS.out.eq;rw[bS (l:=xs) (by rw[HX.out.1];omega)]at h5
    rw[iC,HS.out.len,<-h5,aA]
   have HV:=ab hv;clear hU hO hv;go_wp2;go_ret;exact⟨_,_,_,_,rfl,hc,by simp[hzl];omega,HU.out,HV.out,HB.out⟩

def Fl(h:mX l)(j:Nat)(a:j<l.length):l.getD j 0=bC l/4294967296^j%4294967296:=by
 have b:=wa l j a;have c:bC (l.take j)<4294967296^j:=by
  have d:=ju (h.take j)
  rwa [gN,it om]at d
 have e:=h.getD j;rw[b,SL _ _ (iO om),ee c,aM,Nk,dT e]
def Pi(a s:Nat)(d:s<32):a%4294967296/2^s%2=a/2^s%2:=by
 have h:=Nat.testBit_mod_two_pow a 32 s;simp only[Nat.testBit_eq_decide_div_mod_eq,d,decide_true,Bool.true_and]at h;have e:(2:Nat)^32=4294967296:=by decide
 rw[e]at h;have b:=lr (a%4294967296/2^s);have c:=lr (a/2^s);rcases b with b|b<;>rcases c with c|c<;>simp[b,c]at h ⊢
def Js(h:mX l)(i:Nat)(a:i<32*l.length):l.getD (i/32) 0/2^(i%32)%2=bC l/2^i%2:=by
 rw[Fl h (i/32) om,Pi _ _ om,QB,zS,<-fD];congr 3;omega
structure vN(V D Q R i:Nat):Prop where
 eq:V/2^i=Q*D+R
 lt:R<D
def vN.dig{i:Nat}(h:vN V D Q R (i+1)):V/2^i=2*(Q*D)+(2*R+V/2^i%2):=by
 have a:=h.eq;rw[bZ,<-QB]at a;omega
def vN.more{i:Nat}(h:vN V D Q R (i+1))(a:D<=2*R+V/2^i%2):vN V D (2*Q+1) (2*R+V/2^i%2-D) i:=by
 have b:=h.dig;have c:=h.lt;refine⟨?_,om⟩
 have d:(2*Q+1)*D=2*(Q*D)+D:=by grind
 omega
def vN.less{i:Nat}(h:vN V D Q R (i+1))(a:2*R+V/2^i%2<D):vN V D (2*Q) (2*R+V/2^i%2) i:=by
 have b:=h.dig;refine⟨?_,a⟩;have c:(2*Q)*D=2*(Q*D):=by grind
 omega
def vN.done(h:vN V D Q R 0):Q=V/D/\R=V%D:=by
 have a:=h.eq;have b:=h.lt;simp only[Nat.pow_zero,Nat.div_one]at a;rw[a];refine⟨?_,?_⟩
 .rw[jM,Nat.add_mul_div_right _ _ om,ee b,aM]
 .rw[jM,Nat.add_mul_mod_self_right,dT b]
def Q6{a s:Nat}(h:2^(s+1)∣a):a ||| 2^s=a+2^s:=by
 obtain⟨c,rfl⟩:=h;have d:=kE (i:=s+1) (b:=2^s) (jL om om) c;rw[tI,aA c]at d;exact d.symm
def IJ{ps:List Nat}(f:mX ps){Q i:Nat}(q:i<32*ps.length)(g:bC ps=Q*2^(i+1)) :
  ps.getD (i/32) 0 ||| 2^(i%32)=ps.getD (i/32) 0+2^(i%32)/\ps.getD (i/32) 0+2^(i%32)<4294967296/\bC (ps.set (i/32) (ps.getD (i/32) 0+2^(i%32)))=(2*Q+1)*2^i:=by
 have k:=Fl f (i/32) om;have l:i+1=32*(i/32)+(i%32+1):=om
 have m:bC ps/4294967296^(i/32)=Q*2^(i%32+1):=by
  rw[g,zS]
  conv=>lhs;rw[l,fD,<-bH,aA Q,bH]
  rw[Nat.mul_div_cancel_left _ (iO om)]
 have h:2^(i%32+1)∣4294967296:=⟨2^(31-i%32),by rw[<-fD,(om:i%32+1+(31-i%32)=32)]⟩
 have j:2^(i%32+1)∣ps.getD (i/32) 0:=by
  rw[k,m];exact(Nat.dvd_mod_iff h).2 (Nat.dvd_mul_left _ _)
 have a:=f.getD (i/32);refine⟨Q6 j,?_,?_⟩
 .obtain⟨c,n⟩:=j;obtain⟨d,o⟩:=h;rw[n]at a ⊢;rw[o]at a ⊢;have b:c<d:=Nat.lt_of_mul_lt_mul_left a;have e:2^(i%32+1)*(c+1)<=2^(i%32+1)*d:=aO _ b;have p:0<2^(i%32):=iO om;have r:2^(i%32+1)=2*2^(i%32):=by rw[bZ];omega
  rw[bV,sD]at e;omega
 .have b:=CT ps (i/32) (ps.getD (i/32) 0+2^(i%32)) om;have e:2^(i%32)*4294967296^(i/32)=2^i:=by
   rw[zS,<-fD];congr 1;omega
  rw[dK,e,g,bZ]at b;have p:(2*Q+1)*2^i=Q*(2^i*2)+2^i:=by grind
  omega

def PI(w:TO)(v:Nat)(e:Ending)(w':TO):Prop :=
 ∃(A:Option Ve) (n c:Nat) (zs:List Nat),e=.returned (TK A n c)/\n<=c/\cE w' w'.heap.size A n zs/\pg zs/\bC zs=v/\Uh w.heap.size w w'/\∀ad,A=ho ad->w.heap.size<=ad.block
def I0{e:TW}{cs:List TM}(h:w'.ownsRow B e size (TK A m c) m cs):∀ad,A=ho ad->B<=ad.block:=by
 intro ad b;subst b;rcases h.2 with⟨a,_⟩|⟨g,cap,cur,d,a,_⟩
 .cases a
 .cases d;exact a
def zy(A:Option Ve)(n c B:Nat)(xs:List Nat)(w:TO)(hn:n<=c)(hm:n<=2147483648)(hB:B<=w.heap.size)(h:cE w B A n xs) :
  Uq ak 71 #[TK A n c] w (PI w (bC xs)):=by
 have HH:=ab h;clear h
 go_enter func71,ntmps71
 go_wp2
 go_loop [3] (fun s=>∃k:Nat,k<=n/\s=TQ Uc k/\Ur (∀j,k<=j->xs.getD j 0=0)) (fun s=>(Uu s).toNat)
 case atStart=>exact⟨n,ag _,rfl,ab (fun j hj=>by simp[df,dX (show xs.length<=j by rw[HH.out.1];exact hj)])⟩
 case round =>
  obtain⟨k,hk,rfl,hz⟩:=hrel;by_cases h0:k=0
  .subst h0
   go_wp2_with (at_builtin;refine jE _ rfl _ _ 48 rfl 136 Tryz.t136 (TQ UH 0) 1 4 fO G6 Gm GE Hs rfl om rfl A 0 c [] rfl rfl (fun h=>absurd h om) sm sm sm ?_)
   intro A' c' w1 hown hgrow;have HN:=ab (I0 hown);obtain⟨hU,hc⟩:=cE.ofOwn (xs:=[]) hown (by simp[mX])
   have HU:=ab hU;have HB:=ab (ku hgrow (B:=w.heap.size) (ag _) (by intro g h;cases h))
   have HV:=ab (nj 0 xs hz.out);clear hU hown hgrow hz;go_wp2;go_ret;exact⟨_,_,_,_,rfl,hc,HU.out,zX,by rw[HV.out];rfl,HB.out,HN.out⟩
  .obtain⟨m,rfl⟩:∃m,k=m+1:=⟨k-1,om⟩
   obtain⟨ad,x,rfl,_,hx',_,hx⟩:=HH.out.at_ (k:=m) om;have HX:=ab hx';clear hx';by_cases hx0:x=0
   .subst hx0;go_wp2;refine⟨⟨m,om,by go_num,ab fun j hj=>?_⟩,by simp[Uu]⟩
    rcases aB m j with h|h
    .exact hz.out j h
    .obtain rfl:j=m:=om
     exact HX.out
   .have hb1:((x:Int)==0)=TJ:=by simp;omega
    have HT:=HH.out.take hk;have HTT:=ab HT;clear HT
    go_wp2_with (at_builtin;refine jE _ rfl _ _ 48 rfl 136 Tryz.t136 (TQ UH 0) 1 4 fO G6 Gm GE Hs rfl om rfl (ho ad) (m+1) c (jS (xs.take (m+1))) rfl (by simp[jS];rw[HH.out.1];omega) (HTT.out.src) (ug _) (by simp[maxLen];omega) om ?_)
    intro A' c' w1 hown hgrow;have HN:=ab (I0 hown);obtain⟨hU,hc⟩:=cE.ofOwn hown (HH.out.2.1.take _);have HU:=ab hU;have HB:=ab (ku hgrow (B:=w.heap.size) (ag _) (by intro g h;cases h))
    have HV:=ab (nj (m+1) xs hz.out);have HTP:Ur (pg (xs.take (m+1))):=ab (tN (fun _=>by rw[eB,HX.out];exact hx0) (by rw[HH.out.1];exact hk))
    clear hU hown hgrow hz;go_wp2;go_ret;exact⟨_,_,_,_,rfl,hc,HU.out,HTP.out,HV.out.symm,HB.out,HN.out⟩

def yR{a:Int}(b:-9223372036854775808<=a)(c:a<=9223372036854775807):IntKind.i64.wrap a=a:=IntWalk.i64_in a ⟨b,c⟩
theorem zk:∀n,bC (cp n 0)=0
 | 0=>rfl
 | n+1=>by simp[kc,bC,zk n]
def zr{g i:Nat}(h:cE w w.heap.size A n xs)(a:∀ad,A=ho ad->ad.block≠g):cE (w.setCell ⟨g,i,Ud⟩ u) (w.setCell ⟨g,i,Ud⟩ u).heap.size A n xs:=by
 refine⟨h.1,h.2.1,fun b=>?_⟩;obtain⟨ad,e,c,d⟩:=h.2.2 b;refine⟨ad,e,by simpa using c,fun j f=>?_⟩
 rw[<-d j f];exact BA (w:=w) (by rw[nG];exact NL w ⟨g,i,Ud⟩ u ad.block (a ad e))
def zi{z:Nat}(h:z<4294967296):(z:Int)%4294967296=(z:Int):=dv om om
def O4(s:Bool)(A:Option Ve)(k c:Nat)(w:TO):Sem.run ak (Instr.field 50 (Uf #[TR s,TK A k c]) 1) w=.ok (TK A k c) w:=by
 kernel_rfl
def DG(A B:Option Ve)(n m c d L:Nat)(xs ys:List Nat)(w:TO)(hn:n<=2)(hm:m<=2)(hx:cE w L A n xs)(hy:cE w L B m ys)
  (h0:0<bC ys):Uq ak 189 #[TK A n c,TK B m d] w (nf w (bC xs/bC ys) (bC xs%bC ys)):=by
 have hx4:bC xs<18446744073709551616:=by
  have h:=ju hx.2.1;rw[hx.1]at h;have h2:(4294967296:Nat)^n<=4294967296^2:=cu om hn;omega
 have hy4:bC ys<18446744073709551616:=by
  have h:=ju hy.2.1;rw[hy.1]at h;have h2:(4294967296:Nat)^m<=4294967296^2:=cu om hm;omega
 have HX:=ab hx;clear hx;have HY:=ab hy;clear hy;generalize hvx:bC xs=x at hx4 h0 ⊢;generalize hvy:bC ys=y at hy4 h0 ⊢;have HVX:=ab hvx;clear hvx;have HVY:=ab hvy;clear hvy;have hn2i:(n:Int)<=2:=om
 have hm2i:(m:Int)<=2:=om
 have hy0:(y:Int)≠0:=om
 have hyn:y≠0:=om
 have hqle:x/y<=x:=gG x y;have hrlt:x%y<y:=di x h0;have Hq:Ur (IntKind.u64.wrap ((x:Int)/(y:Int))=((x/y:Nat):Int)):=ab (by rw[ci,<-lN];exact dv (cO _) om)
 have Hr:Ur ((x:Int)%(y:Int)=((x%y:Nat):Int)):=ab sm
 have Hr2:Ur ((x:Int).tmod (y:Int)=((x%y:Nat):Int)):=ab (by rw[aJ (cO _)];simp)
 generalize x/y=q at hqle Hq ⊢;generalize x%y=r at hrlt Hr Hr2 ⊢;have hfld:=O4
 go_enter func189,TA
 go_wp2_with fail
 refine(yO A n c L xs _ om HX.out).mono ?_;rintro e w' ⟨rfl,rfl⟩;rw[HVX.out]
 go_wp2_with fail
 refine(yO B m d L ys _ om HY.out).mono ?_;rintro e w' ⟨rfl,rfl⟩;rw[HVY.out];go_wp2;have HQ:=ab (bG w.heap.size w).drew
 go_region_held3 (fun w'=>Uh w.heap.size w w')
  (first|assumption|exact HQ.out)
  (first
   | (go_at_call 69;rw[Hq.out];refine(qk TJ q w.drew om).mono ?_;rintro e w2 ⟨v,rfl,hI,hb1⟩;obtain⟨s1,A1,k1,c1,qs,rfl,hk1,hU1,hT1,hv1⟩:=hI;have HU1:=ab hU1;clear hU1;have HT1:=ab hT1;clear hT1;have HV1:=ab hv1;clear hv1;have hB2:Uh w.heap.size w w2:=HQ.out.trans (hb1.mono HQ.out.size);clear hb1)
   | (go_at_call 69;(first|rw[Hr.out]|rw[Hr2.out]);refine(qk TJ r w2 om).mono ?_;rintro e w3 ⟨v,rfl,hI,hb2⟩;obtain⟨s2,A2,k2,c2,rs,rfl,hk2,hU2,hT2,hv2⟩:=hI;have HU2:=ab hU2;clear hU2;have HT2:=ab hT2;clear hT2;have HV2:=ab hv2;clear hv2;have hB3:Uh w.heap.size w w3:=hB2.trans (hb2.mono hB2.size);have HB3:=ab hb2;clear hb2))
 all_goals (try go_wp2)
 all_goals go_ret2
 all_goals exact⟨A1,k1,c1,qs,A2,k2,c2,rs,rfl,hk1,hk2,(HU1.out.below HB3.out (ag _)).more HB3.out.size,HU2.out,HT1.out,HT2.out,by have:=nF Int.natAbs HV1.out;rw[fJ,fJ]at this;omega,by have:=nF Int.natAbs HV2.out;rw[fJ,fJ]at this;omega,hB3⟩
def Hg(A B:Option Ve)(n m c d L:Nat)(xs ys:List Nat)(w:TO)(hn:n<=16777216)(hm:m<=16777216)(hL:L<=w.heap.size)(hx:cE w L A n xs)(hy:cE w L B m ys)(ty:pg ys)
  (h0:0<bC ys) (hbig:2<n):Uq ak 189 #[TK A n c,TK B m d] w (nf w (bC xs/bC ys) (bC xs%bC ys)):=by
 have HX:=ab hx;clear hx;have HY:=ab hy;clear hy;have HTY:=ab ty;clear ty;have H0:=ab h0;clear h0;have hmk:=Dt n om;have hbi:¬(n:Int)<=2:=om
 have hwr:IntKind.i64.wrap (32*(n:Int))=32*(n:Int):=yR om om
 go_enter func189,TA
 go_wp2
 go_loopw [5,8] (fun rv iv wr=>∃(i Q R:Nat) (ps rs:List Nat) (A2:Option Ve) (k2 c2:Nat),i<=32*n/\iv=TQ Uc ((i:Int)-1)/\rv=TK A2 k2 c2/\k2<=c2/\k2<=m/\Ur (iD w wr ps)/\Ur (mX ps/\ps.length=n/\bC ps=Q*2^i)/\Ur (cE wr wr.heap.size A2 k2 rs/\pg rs/\bC rs=R)/\Ur (vN (bC xs) (bC ys) Q R i)) (fun _ iv _=>(Uu iv+1).toNat)
 case atStart =>
  refine⟨32*n,0,0,cp n 0,[],Ud,0,0,om,?_,rfl,om,om,ab (iD.start w n),ab ⟨?_,sm,?_⟩,ab ⟨Rb _ _ _,zX,rfl⟩,ab ⟨?_,H0.out⟩⟩
  .go_num
  .intro x hx;rw[iK hx];omega
  .rw[zk];omega
  .rw[ee]
   .omega
   .have h:=ju HX.out.2.1;rw[HX.out.1,zS]at h;exact h
 case round =>
  obtain⟨i,Q,R,ps,rs,A2,k2,c2,hi,rfl,rfl,hk2,hkm,HF,HP,HR,HD⟩:=hrel
  cases i with
  | zero =>
   have e0:((0:Nat):Int)-1=-1:=om
   rw[e0]
   go_wp2_with fail
   have hU:=cE.ofBlk HF.out.2 HP.out.1 HF.out.2.lt rfl;rw[HP.out.2.1]at hU;refine(gC _ _ _ _ _ _ (ag _) om (ag _) hU).mono ?_;rintro e w2 ⟨A3,k3,c3,zs,rfl,hk3,hU3,hT3,hv3,hb3⟩;have HU3:=ab hU3;clear hU3;have HT3:=ab hT3;clear hT3;have HV3:=ab hv3;clear hv3;have HB3:=ab hb3;clear hb3;clear hU;go_wp2;go_ret2;obtain⟨r1,r2,r3⟩:=HR.out;obtain⟨d1,d2⟩:=HD.out.done;exact⟨A3,k3,c3,zs,A2,k2,c2,rs,rfl,hk3,hk2,HU3.out,(r1.below HB3.out (ag _)).more HB3.out.size,HT3.out,r2,by rw[HV3.out,HP.out.2.2,d1];simp,by rw[r3,d2],HF.out.1.trans (HB3.out.mono HF.out.1.size)⟩
  | succ i =>
   have e0:((i+1:Nat):Int)-1=(i:Int):=om
   rw[e0];obtain⟨ad,x,rfl,hab,hxx,hx4,hcx⟩:=(HX.out.below HF.out.1 hL).at_ (k:=i/32) om;have HXX:=ab hxx;clear hxx;have hi0:(0:Int)<=i:=om
   have hi32:(i:Int)/32<n:=om
   have hi33:(0:Int)<=(i:Int)/32:=om
   have hi34:((i:Int)/32).toNat=i/32:=om
   have hbit:Vp .and UH ((x:Int)/2^(i%32)) 1=((bC xs/2^i%2:Nat):Int):=by
    have h:=u32_and_nat (x/2^(i%32)) 1 (dG (gG _ _) hx4) om;rw[SW,<-HXX.out,Js HX.out.2.1 i (by rw[HX.out.1];omega)]at h
    rw[<-h,<-HXX.out];simp
   have hb1:bC xs/2^i%2<=1:=om
   generalize hbb:bC xs/2^i%2=b at hbit hb1;have HBB:=ab hbb;clear hbb;have HBIT:=ab hbit;clear hbit
   go_wp2_with fail
   rw[HBIT.out];refine(Ar A2 k2 c2 wr.heap.size b rs wr om (ag _) HR.out.1 hb1).mono ?_;rintro e w1 ⟨A3,k3,c3,zs3,rfl,hc3,hk3,hU3,hv3,hb3⟩;have HU3:=ab hU3;clear hU3;have HV3:=ab hv3;clear hv3;have HB3:=ab (HF.out.1.trans (hb3.mono HF.out.1.size));have HF3:Ur (iD w w1 ps):=ab ⟨HB3.out,HF.out.2.below hb3 HF.out.2.lt⟩;clear hb3
   go_wp2_with fail
   refine(gC A3 k3 c3 _ zs3 w1 hc3 om (ag _) HU3.out).mono ?_;rintro e w2 ⟨A4,k4,c4,zs4,rfl,hc4,hU4,hT4,hv4,hb4⟩;have HF4:Ur (iD w w2 ps):=ab ⟨HB3.out.trans (hb4.mono HB3.out.size),HF3.out.2.below hb4 HF3.out.2.lt⟩;have hk4:k4<=k2+1:=by
    rw[aD hU4 hT4,hv4];exact bQ (jR.2 (by have:=ju HU3.out.2.1;rw[HU3.out.1]at this;exact this)) hk3
   have HU4:=ab hU4;clear hU4;have HT4:=ab hT4;clear hT4;have HV4:Ur (bC zs4=2*R+b):=ab (by rw[hv4,HV3.out,HR.out.2.2]);clear hv4 hb4 HU3 HV3 HB3 HF3 HBIT
   have hY2:cE w2 w2.heap.size B m ys:=(HY.out.below HF4.out.1 hL).more (by have:=HF4.out.1.size;omega)
   have HY2:=ab hY2;clear hY2;rcases aB (2*R+b) (bC ys)with hlt|hge
   .have hcm:lg (bC zs4) (bC ys)=-1:=by rw[HV4.out];exact lE hlt
    have HCM:=ab hcm;clear hcm;have HD2:=ab (HD.out.less (by rw[HBB.out];exact hlt))
    have hk5:k4<=m:=by
     rw[aD HU4.out HT4.out,aD HY.out HTY.out,HV4.out];exact fM (du hlt)
    clear hlt
    go_wp2_with fail
    refine(l5 A4 B k4 m c4 d w2.heap.size zs4 ys w2 om om HU4.out HY2.out HT4.out HTY.out).mono ?_;rintro e w5 ⟨rfl,hst⟩;rw[HCM.out];obtain⟨q,rfl⟩:=hst;go_wp2
    go_roundw
    case rel=>exact⟨i,2*Q,2*R+b,ps,zs4,A4,k4,c4,om,by go_num,rfl,hc4,hk5,ab ⟨HF4.out.1.trans ((dW.refl w2).more q |>.below _),HF4.out.2⟩,ab ⟨HP.out.1,HP.out.2.1,by rw[HP.out.2.2,bZ];grind⟩,ab ⟨HU4.out,HT4.out,HV4.out⟩,ab (by have:=HD2.out;rw[HBB.out]at this;exact this)⟩
    case measure=>simp[Uu]
   .have hcm:0<=lg (bC zs4) (bC ys):=by
     rw[HV4.out];rcases aB (bC ys) (2*R+b)with h|h
     .rw[kD h];omega
     .rw[lF om];omega
    have hmk4:m<=k4:=by
     rw[aD HU4.out HT4.out,aD HY.out HTY.out,HV4.out];exact fM hge
    have HD2:Ur (vN (bC xs) (bC ys) (2*Q+1) (2*R+b-bC ys) i):=ab (by have:=HD.out.more (by rw[HBB.out];exact hge);rw[HBB.out]at this;exact this)
    have HGE:=ab hge;clear hge;generalize hcg:lg (bC zs4) (bC ys)=cm at hcm;have HCM:=ab hcg;clear hcg
    go_wp2_with fail
    refine(l5 A4 B k4 m c4 d w2.heap.size zs4 ys w2 om om HU4.out HY2.out HT4.out HTY.out).mono ?_;rintro e w5 ⟨rfl,hst⟩;rw[HCM.out];obtain⟨q,rfl⟩:=hst;have HUq:Ur (cE (w2.drewN q) (w2.drewN q).heap.size A4 k4 zs4):=ab HU4.out;have HYq:Ur (cE (w2.drewN q) (w2.drewN q).heap.size B m ys):=ab HY2.out;have HFq:Ur (iD w (w2.drewN q) ps):=ab ⟨HF4.out.1.trans ((dW.refl w2).more q |>.below _),HF4.out.2⟩
    clear HF4 HY2 HF HR;generalize w2.drewN q=wq at HUq HYq HFq ⊢
    go_wp2_with fail
    refine(lC A4 B k4 m c4 d wq.heap.size zs4 ys wq hmk4 om (ag _) HUq.out HYq.out (by rw[HV4.out];exact HGE.out)).mono ?_
    rintro e w6 ⟨A6,k6,c6,zs6,rfl,hc6,hk6,hU6,hv6,hb6⟩;have HF6:Ur (iD w w6 ps):=ab ⟨HFq.out.1.trans (hb6.mono HFq.out.1.size),HFq.out.2.below hb6 HFq.out.2.lt⟩;have HU6:=ab hU6;clear hU6;have HV6:=ab hv6;clear hv6 hb6 HFq HYq HUq
    go_wp2_with fail
    refine(zy A6 k6 c6 _ zs6 w6 hc6 om (ag _) HU6.out).mono ?_;rintro e w7 ⟨A7,k7,c7,zs7,rfl,hc7,hU7,hT7,hv7,hb7,hN7⟩;have HN7:Ur (∀ad,A7=ho ad->ad.block≠w.heap.size):=ab (fun ad h=>by have h1:=hN7 ad h;have h2:=HF6.out.2.lt;omega)
    clear hN7;have HF7:Ur (iD w w7 ps):=ab ⟨HF6.out.1.trans (hb7.mono HF6.out.1.size),HF6.out.2.below hb7 HF6.out.2.lt⟩;have HV7:Ur (bC zs7=2*R+b-bC ys):=ab (by rw[hv7,HV6.out,HV4.out])
    have hk7:k7<=m:=by
     rw[aD hU7 hT7,aD HY.out HTY.out,HV7.out];exact fM (du HD2.out.lt)
    have HU7:=ab hU7;clear hU7;have HT7:=ab hT7;clear hT7 hv7 hb7 HF6 HU6 HV6;obtain⟨s1,s2,s3⟩:=IJ HP.out.1 (Q:=Q) (i:=i) (by rw[HP.out.2.1];omega) HP.out.2.2
    obtain⟨hcp,hfp⟩:=HF7.out.at_ (i/32) (by rw[HP.out.2.1];omega)
    have hp4:=HP.out.1.getD (i/32);generalize hpp:ps.getD (i/32) 0=p at hcp s1 s2 s3 hp4;clear hpp;have hor:Vp .or UH (p:Int) (IntKind.u32.wrap (2^((i:Int)%32).toNat))=((p+2^(i%32):Nat):Int):=by
     have h1:((i:Int)%32).toNat=i%32:=om
     have h2:2^(i%32)<4294967296:=by
      have:2^(i%32)<2^32:=jL om om;simpa using this
     have h3:((2:Int)^(i%32))=((2^(i%32):Nat):Int):=by simp
     have h4:IntKind.u32.wrap ((2^(i%32):Nat):Int)=((2^(i%32):Nat):Int):=by rw[KY];exact zi h2
     rw[h1,h3,h4,To _ _ hp4 h2,s1]
    have HOR:=ab hor;clear hor;have HS3:=ab s3;clear s3 s1;have HS2:=ab s2;clear s2;have hU7d:cE w7.drew w7.drew.heap.size A7 k7 zs7:=HU7.out;have HU7d:=ab hU7d;clear hU7d;have HF7d:Ur (iD w w7.drew ps):=ab ⟨HF7.out.1.drew,HF7.out.2⟩;go_wp2;have ht1:(i:Int).tdiv 32=(i:Int)/32:=fG hi0;have ht2:(i:Int).tmod 32=(i:Int)%32:=aJ hi0;have ht3:IntKind.i64.wrap ((i:Int)/32)=(i:Int)/32:=yR om om;have ht4:(0:Int)<=(i:Int)%32:=om
    go_still_tail 9,kr
    rw[HOR.out];change wpList _ _ _ _ _ w7.drew;clear ht1 ht2 ht3 ht4 HOR HU7 HF7;have hcp':w7.drew.cell? ⟨w.heap.size,i/32,Ud⟩=ho (TQ UH p):=hcp;have hfp':w7.drew.frozen? ⟨w.heap.size,i/32,Ud⟩=TJ:=hfp;clear hcp hfp;generalize w7.drew=w8 at hcp' hfp' HU7d HF7d ⊢;go_wp2
    go_roundw
    case rel =>
     have hF:=HF7d.out.put (i/32) (p+2^(i%32));refine⟨i,2*Q+1,2*R+b-bC ys,ps.set (i/32) (p+2^(i%32)),zs7,A7,k7,c7,om,by go_num,rfl,hc7,hk7,ab hF,ab ⟨HP.out.1.set _ HS2.out,by rw[Tr];exact HP.out.2.1,HS3.out⟩,ab ⟨?_,HT7.out,HV7.out⟩,HD2⟩
     exact zr HU7d.out HN7.out
    case measure=>simp[Uu]

def Hf(A B:Option Ve)(n m c d L:Nat)(xs ys:List Nat)(w:TO)(hn:n<=16777216)(hm:m<=16777216)(hL:L<=w.heap.size)(hx:cE w L A n xs)(hy:cE w L B m ys)(ty:pg ys)
  (h0:0<bC ys) (hb1:n<=2) (hb2:2<m):Uq ak 189 #[TK A n c,TK B m d] w (nf w (bC xs/bC ys) (bC xs%bC ys)):=by
 have HX:=ab hx;clear hx;have HY:=ab hy;clear hy;have HTY:=ab ty;clear ty;have H0:=ab h0;clear h0;have hmk:=Dt n om;have hbi:(n:Int)<=2:=om
 have hbj:¬(m:Int)<=2:=om
 have hwr:IntKind.i64.wrap (32*(n:Int))=32*(n:Int):=yR om om
 go_enter func189,TA
 go_wp2
 go_loopw [5,8] (fun rv iv wr=>∃(i Q R:Nat) (ps rs:List Nat) (A2:Option Ve) (k2 c2:Nat),i<=32*n/\iv=TQ Uc ((i:Int)-1)/\rv=TK A2 k2 c2/\k2<=c2/\k2<=m/\Ur (iD w wr ps)/\Ur (mX ps/\ps.length=n/\bC ps=Q*2^i)/\Ur (cE wr wr.heap.size A2 k2 rs/\pg rs/\bC rs=R)/\Ur (vN (bC xs) (bC ys) Q R i)) (fun _ iv _=>(Uu iv+1).toNat)
 case atStart =>
  refine⟨32*n,0,0,cp n 0,[],Ud,0,0,om,?_,rfl,om,om,ab (iD.start w n),ab ⟨?_,sm,?_⟩,ab ⟨Rb _ _ _,zX,rfl⟩,ab ⟨?_,H0.out⟩⟩
  .go_num
  .intro x hx;rw[iK hx];omega
  .rw[zk];omega
  .rw[ee]
   .omega
   .have h:=ju HX.out.2.1;rw[HX.out.1,zS]at h;exact h
 case round =>
  obtain⟨i,Q,R,ps,rs,A2,k2,c2,hi,rfl,rfl,hk2,hkm,HF,HP,HR,HD⟩:=hrel
  cases i with
  | zero =>
   have e0:((0:Nat):Int)-1=-1:=om
   rw[e0]
   go_wp2_with fail
   have hU:=cE.ofBlk HF.out.2 HP.out.1 HF.out.2.lt rfl;rw[HP.out.2.1]at hU;refine(gC _ _ _ _ _ _ (ag _) om (ag _) hU).mono ?_;rintro e w2 ⟨A3,k3,c3,zs,rfl,hk3,hU3,hT3,hv3,hb3⟩;have HU3:=ab hU3;clear hU3;have HT3:=ab hT3;clear hT3;have HV3:=ab hv3;clear hv3;have HB3:=ab hb3;clear hb3;clear hU;go_wp2;go_ret2;obtain⟨r1,r2,r3⟩:=HR.out;obtain⟨d1,d2⟩:=HD.out.done;exact⟨A3,k3,c3,zs,A2,k2,c2,rs,rfl,hk3,hk2,HU3.out,(r1.below HB3.out (ag _)).more HB3.out.size,HT3.out,r2,by rw[HV3.out,HP.out.2.2,d1];simp,by rw[r3,d2],HF.out.1.trans (HB3.out.mono HF.out.1.size)⟩
  | succ i =>
   have e0:((i+1:Nat):Int)-1=(i:Int):=om
   rw[e0];obtain⟨ad,x,rfl,hab,hxx,hx4,hcx⟩:=(HX.out.below HF.out.1 hL).at_ (k:=i/32) om;have HXX:=ab hxx;clear hxx;have hi0:(0:Int)<=i:=om
   have hi32:(i:Int)/32<n:=om
   have hi33:(0:Int)<=(i:Int)/32:=om
   have hi34:((i:Int)/32).toNat=i/32:=om
   have hbit:Vp .and UH ((x:Int)/2^(i%32)) 1=((bC xs/2^i%2:Nat):Int):=by
    have h:=u32_and_nat (x/2^(i%32)) 1 (dG (gG _ _) hx4) om;rw[SW,<-HXX.out,Js HX.out.2.1 i (by rw[HX.out.1];omega)]at h
    rw[<-h,<-HXX.out];simp
   have hb1:bC xs/2^i%2<=1:=om
   generalize hbb:bC xs/2^i%2=b at hbit hb1;have HBB:=ab hbb;clear hbb;have HBIT:=ab hbit;clear hbit
   go_wp2_with fail
   rw[HBIT.out];refine(Ar A2 k2 c2 wr.heap.size b rs wr om (ag _) HR.out.1 hb1).mono ?_;rintro e w1 ⟨A3,k3,c3,zs3,rfl,hc3,hk3,hU3,hv3,hb3⟩;have HU3:=ab hU3;clear hU3;have HV3:=ab hv3;clear hv3;have HB3:=ab (HF.out.1.trans (hb3.mono HF.out.1.size));have HF3:Ur (iD w w1 ps):=ab ⟨HB3.out,HF.out.2.below hb3 HF.out.2.lt⟩;clear hb3
   go_wp2_with fail
   refine(gC A3 k3 c3 _ zs3 w1 hc3 om (ag _) HU3.out).mono ?_;rintro e w2 ⟨A4,k4,c4,zs4,rfl,hc4,hU4,hT4,hv4,hb4⟩;have HF4:Ur (iD w w2 ps):=ab ⟨HB3.out.trans (hb4.mono HB3.out.size),HF3.out.2.below hb4 HF3.out.2.lt⟩;have hk4:k4<=k2+1:=by
    rw[aD hU4 hT4,hv4];exact bQ (jR.2 (by have:=ju HU3.out.2.1;rw[HU3.out.1]at this;exact this)) hk3
   have HU4:=ab hU4;clear hU4;have HT4:=ab hT4;clear hT4;have HV4:Ur (bC zs4=2*R+b):=ab (by rw[hv4,HV3.out,HR.out.2.2]);clear hv4 hb4 HU3 HV3 HB3 HF3 HBIT
   have hY2:cE w2 w2.heap.size B m ys:=(HY.out.below HF4.out.1 hL).more (by have:=HF4.out.1.size;omega)
   have HY2:=ab hY2;clear hY2;rcases aB (2*R+b) (bC ys)with hlt|hge
   .have hcm:lg (bC zs4) (bC ys)=-1:=by rw[HV4.out];exact lE hlt
    have HCM:=ab hcm;clear hcm;have HD2:=ab (HD.out.less (by rw[HBB.out];exact hlt))
    have hk5:k4<=m:=by
     rw[aD HU4.out HT4.out,aD HY.out HTY.out,HV4.out];exact fM (du hlt)
    clear hlt
    go_wp2_with fail
    refine(l5 A4 B k4 m c4 d w2.heap.size zs4 ys w2 om om HU4.out HY2.out HT4.out HTY.out).mono ?_;rintro e w5 ⟨rfl,hst⟩;rw[HCM.out];obtain⟨q,rfl⟩:=hst;go_wp2
    go_roundw
    case rel=>exact⟨i,2*Q,2*R+b,ps,zs4,A4,k4,c4,om,by go_num,rfl,hc4,hk5,ab ⟨HF4.out.1.trans ((dW.refl w2).more q |>.below _),HF4.out.2⟩,ab ⟨HP.out.1,HP.out.2.1,by rw[HP.out.2.2,bZ];grind⟩,ab ⟨HU4.out,HT4.out,HV4.out⟩,ab (by have:=HD2.out;rw[HBB.out]at this;exact this)⟩
    case measure=>simp[Uu]
   .have hcm:0<=lg (bC zs4) (bC ys):=by
     rw[HV4.out];rcases aB (bC ys) (2*R+b)with h|h
     .rw[kD h];omega
     .rw[lF om];omega
    have hmk4:m<=k4:=by
     rw[aD HU4.out HT4.out,aD HY.out HTY.out,HV4.out];exact fM hge
    have HD2:Ur (vN (bC xs) (bC ys) (2*Q+1) (2*R+b-bC ys) i):=ab (by have:=HD.out.more (by rw[HBB.out];exact hge);rw[HBB.out]at this;exact this)
    have HGE:=ab hge;clear hge;generalize hcg:lg (bC zs4) (bC ys)=cm at hcm;have HCM:=ab hcg;clear hcg
    go_wp2_with fail
    refine(l5 A4 B k4 m c4 d w2.heap.size zs4 ys w2 om om HU4.out HY2.out HT4.out HTY.out).mono ?_;rintro e w5 ⟨rfl,hst⟩;rw[HCM.out];obtain⟨q,rfl⟩:=hst;have HUq:Ur (cE (w2.drewN q) (w2.drewN q).heap.size A4 k4 zs4):=ab HU4.out;have HYq:Ur (cE (w2.drewN q) (w2.drewN q).heap.size B m ys):=ab HY2.out;have HFq:Ur (iD w (w2.drewN q) ps):=ab ⟨HF4.out.1.trans ((dW.refl w2).more q |>.below _),HF4.out.2⟩
    clear HF4 HY2 HF HR;generalize w2.drewN q=wq at HUq HYq HFq ⊢
    go_wp2_with fail
    refine(lC A4 B k4 m c4 d wq.heap.size zs4 ys wq hmk4 om (ag _) HUq.out HYq.out (by rw[HV4.out];exact HGE.out)).mono ?_
    rintro e w6 ⟨A6,k6,c6,zs6,rfl,hc6,hk6,hU6,hv6,hb6⟩;have HF6:Ur (iD w w6 ps):=ab ⟨HFq.out.1.trans (hb6.mono HFq.out.1.size),HFq.out.2.below hb6 HFq.out.2.lt⟩;have HU6:=ab hU6;clear hU6;have HV6:=ab hv6;clear hv6 hb6 HFq HYq HUq
    go_wp2_with fail
    refine(zy A6 k6 c6 _ zs6 w6 hc6 om (ag _) HU6.out).mono ?_;rintro e w7 ⟨A7,k7,c7,zs7,rfl,hc7,hU7,hT7,hv7,hb7,hN7⟩;have HN7:Ur (∀ad,A7=ho ad->ad.block≠w.heap.size):=ab (fun ad h=>by have h1:=hN7 ad h;have h2:=HF6.out.2.lt;omega)
    clear hN7;have HF7:Ur (iD w w7 ps):=ab ⟨HF6.out.1.trans (hb7.mono HF6.out.1.size),HF6.out.2.below hb7 HF6.out.2.lt⟩;have HV7:Ur (bC zs7=2*R+b-bC ys):=ab (by rw[hv7,HV6.out,HV4.out])
    have hk7:k7<=m:=by
     rw[aD hU7 hT7,aD HY.out HTY.out,HV7.out];exact fM (du HD2.out.lt)
    have HU7:=ab hU7;clear hU7;have HT7:=ab hT7;clear hT7 hv7 hb7 HF6 HU6 HV6;obtain⟨s1,s2,s3⟩:=IJ HP.out.1 (Q:=Q) (i:=i) (by rw[HP.out.2.1];omega) HP.out.2.2
    obtain⟨hcp,hfp⟩:=HF7.out.at_ (i/32) (by rw[HP.out.2.1];omega)
    have hp4:=HP.out.1.getD (i/32);generalize hpp:ps.getD (i/32) 0=p at hcp s1 s2 s3 hp4;clear hpp;have hor:Vp .or UH (p:Int) (IntKind.u32.wrap (2^((i:Int)%32).toNat))=((p+2^(i%32):Nat):Int):=by
     have h1:((i:Int)%32).toNat=i%32:=om
     have h2:2^(i%32)<4294967296:=by
      have:2^(i%32)<2^32:=jL om om;simpa using this
     have h3:((2:Int)^(i%32))=((2^(i%32):Nat):Int):=by simp
     have h4:IntKind.u32.wrap ((2^(i%32):Nat):Int)=((2^(i%32):Nat):Int):=by rw[KY];exact zi h2
     rw[h1,h3,h4,To _ _ hp4 h2,s1]
    have HOR:=ab hor;clear hor;have HS3:=ab s3;clear s3 s1;have HS2:=ab s2;clear s2;have hU7d:cE w7.drew w7.drew.heap.size A7 k7 zs7:=HU7.out;have HU7d:=ab hU7d;clear hU7d;have HF7d:Ur (iD w w7.drew ps):=ab ⟨HF7.out.1.drew,HF7.out.2⟩;go_wp2;have ht1:(i:Int).tdiv 32=(i:Int)/32:=fG hi0;have ht2:(i:Int).tmod 32=(i:Int)%32:=aJ hi0;have ht3:IntKind.i64.wrap ((i:Int)/32)=(i:Int)/32:=yR om om;have ht4:(0:Int)<=(i:Int)%32:=om
    go_still_tail 9,kr
    rw[HOR.out];change wpList _ _ _ _ _ w7.drew;clear ht1 ht2 ht3 ht4 HOR HU7 HF7;have hcp':w7.drew.cell? ⟨w.heap.size,i/32,Ud⟩=ho (TQ UH p):=hcp;have hfp':w7.drew.frozen? ⟨w.heap.size,i/32,Ud⟩=TJ:=hfp;clear hcp hfp;generalize w7.drew=w8 at hcp' hfp' HU7d HF7d ⊢;go_wp2
    go_roundw
    case rel =>
     have hF:=HF7d.out.put (i/32) (p+2^(i%32));refine⟨i,2*Q+1,2*R+b-bC ys,ps.set (i/32) (p+2^(i%32)),zs7,A7,k7,c7,om,by go_num,rfl,hc7,hk7,ab hF,ab ⟨HP.out.1.set _ HS2.out,by rw[Tr];exact HP.out.2.1,HS3.out⟩,ab ⟨?_,HT7.out,HV7.out⟩,HD2⟩
     exact zr HU7d.out HN7.out
    case measure=>simp[Uu]
def Hh(A B:Option Ve)(n m c d L:Nat)(xs ys:List Nat)(w:TO)(f:n<=16777216)(g:m<=16777216)(h:L<=w.heap.size)(a:cE w L A n xs)(b:cE w L B m ys)(ty:pg ys)
  (e:0<bC ys):Uq ak 189 #[TK A n c,TK B m d] w (nf w (bC xs/bC ys) (bC xs%bC ys)):=by
 by_cases i:n<=2
 .by_cases j:m<=2
  .exact DG A B n m c d L xs ys w i j a b e
  .exact Hf A B n m c d L xs ys w f g h a b ty e i om
 .exact Hg A B n m c d L xs ys w f g h a b ty e om

inductive AV where
 | int (k:UJ) (n:Int)
 | bool (b:Bool)
 | big (z:Int)
 | nil
 | sl (es b off len:Nat)
 | ptr (es b i:Nat)
 | lst (es n:Nat) (g:Nat->AV)
 | pat (es:Nat) (x:AV)
 | tup (l:List AV)
 | agg (l:List AV)
 | fn (f:Nat) (l:List AV)
 | mag (n:Nat)
 | fp (b i f:Nat)
 | bset (p:Bool->Prop)
 | any
 | nfn
 | mfn (f:Nat) (l:List AV)
variable{s x y:AV}{K:AV->Prop}{ps:List (Nat×AV)}{args:List AV}{g h:Nat->AV}
structure eA where
 ty:TypeId
 es:Nat
 n:Nat
 g:Nat->AV
variable{X:eA}
abbrev St:=Nat->Option eA
variable{post post':AV->St->Prop}{S S':St}
def St.dom(S:St)(b:Nat):Prop:=S b≠none
def St.none:St:=fun _=>ae
def St.upd(S:St)(b:Nat)(x:eA):St:=fun k=>if k=b then ho x else S k
def one:TM->Prop
 | Uf _=>False
 | UB _=>False
 | _=>True
def lQ:TM->Prop
 | TQ UH _=>False
 | _=>True
def reads(cs:Array TM)(off:Nat):Nat->TM->Prop
 | 1,u=>cs[off]? = ho u/\one u
 | 2,u=>∃x y,u=Uf #[x,y]/\one x/\one y/\cs[off]? = ho x/\cs[off+1]? = ho y
 | _,_=>False
def wy(w:TO)(b off es:Nat)(u:TM):Prop:=∃cs ty fr,w.heap[b]? = ho (TP cs ty fr)/\reads cs off es u
mutual
def bI(w:TO)(M:Nat->Prop):AV->TM->Prop
 | .int k n,v=>v=TQ k n
 | .bool b,v=>v=TR b
 | .big z,v=>eC w w.heap.size v z
 | .nil,v=>v=TK Ud 0 0
 | .sl es b off len,v=>∃cap cs ty fr,v=TK (ho ⟨b,es*off,Ud⟩) len cap/\len<=cap/\w.heap[b]? = ho (TP cs ty fr)/\es*(off+cap)<=cs.size
 | .ptr es b i,v=>v=Uk (ho ⟨b,es*i,Ud⟩)
 | .lst es n g,v=>∃A c,v=TK A n c/\n<=c/\(0<n->∃b off,A=ho ⟨b,off,Ud⟩/\b<w.heap.size/\¬M b/\∀j,j<n->∃u,wy w b (off+es*j) es u/\bI w M (g j) u)
 | .pat es x,v=>∃b off u,v=Uk (ho ⟨b,off,Ud⟩)/\b<w.heap.size/\¬M b/\wy w b off es u/\bI w M x u
 | .tup l,v=>∃vs:List TM,v=UB vs.toArray/\bB w M l vs
 | .agg l,v=>∃vs:List TM,v=Uf (vs.flatMap (fun u=>u.cells.toList)).toArray/\bB w M l vs
 | .fn f l,v=>∃vs:List TM,v=.func (.func f) #[] vs.toArray/\bB w M l vs
 | .mag n,v=>eC w w.heap.size (Uf #[TR TJ,v]) (n:Int)
 | .fp b i f,v=>v=Uk (ho ⟨b,2*i+f,Ud⟩)
 | .bset p,v=>∃s,v=TR s/\p s
 | .any,_=>True
 | .nfn,v=>v=.nilFunc
 | .mfn f l,v=>∃vs:List TM,v=.func (.func f) vs.toArray #[]/\bB w M l vs
def bB(w:TO)(M:Nat->Prop):List AV->List TM->Prop
 | [],[]=>True
 | a::l,v::vs=>bI w M a v/\bB w M l vs
 | [],_::_=>False
 | _::_,[]=>False
end
def BlkS(w:TO)(S:St):Prop:=∀b x,S b=ho x->∃cs,w.heap[b]? = ho (TP cs x.ty (0,0))/\x.es*x.n<=cs.size /\
 (∀j,j<x.n->∃u,reads cs (x.es*j) x.es u/\bI w S.dom (x.g j) u)/\∀(k:Nat) (y:TM),cs[k]? = ho y->lQ y
def wD:List Int:=[7,11,13,17,19,23,29,31]
def vK(w:TO):Prop:=∃cs ty,w.heap[0]? = ho (TP cs ty (0,0))/\∀r,r<8->cs[r]? = ho (TQ Uc (wD.getD r 0))
structure eF(w:TO)(S:St):Prop where
 z:S 0=none
 gl:vK w
 blk:BlkS w S
instance (w:TO) (S:St):CoeFun (eF w S) (fun _=>BlkS w S):=⟨eF.blk⟩
def NoU(M:Nat->Prop)(w:TO):Prop:=∀b,M b->∀cs ty fr,w.heap[b]? = ho (TP cs ty fr)->∀(k:Nat) (y:TM),cs[k]? = ho y->lQ y
def eF.noU(h:eF w S):NoU S.dom w:=by
 intro b a cs ty fr c k y d;unfold St.dom at a
 cases e:S b with
 | none=>exact absurd e a
 | some x =>
  obtain⟨cs',f,_,_,g⟩:=h b x e;rw[f]at c
  cases c
  exact g k y d
structure dA(M M':Nat->Prop)(w w':TO):Prop where
 os:w'.os=w.os
 tape:w'.tape=w.tape
 output:w'.output=w.output
 size:w.heap.size<=w'.heap.size
 keep:∀k,k<w.heap.size->¬M k->w'.heap[k]? = w.heap[k]?
 shape:∀(k:Nat) (cs:Array TM) (ty:TW) (fr:Nat×Nat),w.heap[k]? = ho (TP cs ty fr)->∃cs':Array TM,w'.heap[k]? = ho (TP cs' ty fr)/\cs'.size=cs.size
 own:∀k,k<w.heap.size->M' k->M k
def dA.refl(M:Nat->Prop)(w:TO):dA M M w w:=⟨rfl,rfl,rfl,ag _,fun _ _ _=>rfl,fun _ cs _ _ h=>⟨cs,h,rfl⟩,fun _ _ h=>h⟩
def dA.trans{a b c:TO}(h:dA M M' a b)(k:dA M' M'' b c):dA M M'' a c :=
 ⟨k.os.trans h.os,k.tape.trans h.tape,k.output.trans h.output,bQ h.size k.size,
   fun i d e=>(k.keep i (cZ d h.size) (fun f=>e (h.own i d f))).trans (h.keep i d e),
   fun i cs ty fr l=>by
    obtain⟨g,m,n⟩:=h.shape i cs ty fr l;obtain⟨j,o,p⟩:=k.shape i g ty fr m;exact⟨j,o,p.trans n⟩,
   fun i d e=>h.own i d (k.own i (cZ d h.size) e)⟩
def dA.weaken{a b:TO}(h:dA M M' a b)(c:∀k,M'' k->M' k):dA M M'' a b :=
 ⟨h.os,h.tape,h.output,h.size,h.keep,h.shape,fun k d e=>h.own k d (c k e)⟩
def vK.grow(h:vK w)(d:dA M M' w w')(e:¬M 0):vK w':=by
 obtain⟨cs,ty,b,f⟩:=h;have a:0<w.heap.size:=by
  rcases aB 0 w.heap.size with a|c
  .exact a
  .rw[eo c]at b;cases b
 exact⟨cs,ty,(d.keep 0 a e).trans b,f⟩
def eF.n0(h:eF w S):¬S.dom 0:=fun k=>k h.z
def eF.grow(h:eF w S)(a:dA S.dom M' w w'):vK w':=h.gl.grow a h.n0
def vK.pos(h:vK w):0<w.heap.size:=by
 obtain⟨cs,ty,c,d⟩:=h;rcases aB 0 w.heap.size with a|b
 .exact a
 .rw[eo b]at c;cases c
def St.upd0(h:S 0=ae)(a:b≠0):S.upd b X 0=ae:=by
 unfold St.upd;rw[ah (fun e=>a e.symm)];exact h
def fN(h:w.heap[b]? = ho o):b<w.heap.size:=by
 rcases aB b w.heap.size with a|c
 .exact a
 .rw[eo c]at h;cases h
def AA(h:w.cell? ad=ho v):∃cs ty fr,w.heap[ad.block]? = ho (TP cs ty fr)/\∃k:Nat,cs[k]? = ho v:=by
 unfold World.cell? at h;split at h
 .rename_i cs ty fr a;split at h
  .cases h
  .exact⟨cs,ty,fr,a,_,h⟩
 .cases h
def eC.grow(l:NoU M w)(f:dA M M' w w'){v:TM}{z:Int}(h:eC w w.heap.size v z):eC w' w'.heap.size v z:=by
 obtain⟨neg,A,n,c,xs,m,o,b,p,q⟩:=h;refine⟨neg,A,n,c,xs,m,o,⟨b.1,b.2.1,fun r=>?_⟩,p,q⟩;obtain⟨ad,e,g,s⟩:=b.2.2 r;refine⟨ad,e,cZ g f.size,fun j t=>?_⟩;have a:=s j t;have d:¬M ad.block:=by
  intro d;obtain⟨cs,ty,fr,i,k,u⟩:=AA a;rw[nG]at i;exact l _ d cs ty fr i k _ u
 rw[<-a];exact BA (w:=w) (by rw[nG];exact f.keep _ g d)
def wy.grow(a:dA M M' w w'){b off es:Nat}{u:TM}(c:b<w.heap.size)(d:¬M b)(h:wy w b off es u):wy w' b off es u:=by
 obtain⟨cs,ty,fr,e,f⟩:=h;exact⟨cs,ty,fr,(a.keep b c d).trans e,f⟩
mutual
theorem bI.grow{M M':Nat->Prop}{w w':TO}(q:NoU M w)(d:dA M M' w w'):∀(a:AV) (v:TM),bI w M a v->bI w' M' a v
 | .int k n,v,h=>by simpa [bI]using h
 | .bool b,v,h=>by simpa [bI]using h
 | .big z,v,h=>by simp only[bI]at h ⊢;exact h.grow q d
 | .nil,v,h=>by simpa [bI]using h
 | .sl es b off len,v,h=>by
  simp only[bI]at h ⊢;obtain⟨cap,cs,ty,fr,m,o,y,E⟩:=h;obtain⟨cs',F,G⟩:=d.shape b cs ty fr y;exact⟨cap,cs',ty,fr,m,o,F,by rw[G];exact E⟩
 | .ptr es b i,v,h=>by simpa [bI]using h
 | .lst es n g,v,h=>by
  simp only[bI]at h ⊢;obtain⟨A,c,m,o,y⟩:=h;refine⟨A,c,m,o,fun H=>?_⟩;obtain⟨b,off,e,r,t,I⟩:=y H;refine⟨b,off,e,cZ r d.size,fun s=>t (d.own b r s),fun j B=>?_⟩;obtain⟨u,C,D⟩:=I j B;exact⟨u,C.grow d r t,bI.grow q d (g j) u D⟩
 | .pat es x,v,h=>by
  simp only[bI]at h ⊢;obtain⟨b,off,u,m,r,t,C,J⟩:=h;exact⟨b,off,u,m,cZ r d.size,fun s=>t (d.own b r s),C.grow d r t,bI.grow q d x u J⟩
 | .tup l,v,h=>by
  simp only[bI]at h ⊢;obtain⟨vs,m,o⟩:=h;exact⟨vs,m,bB.grow q d l vs o⟩
 | .agg l,v,h=>by
  simp only[bI]at h ⊢;obtain⟨vs,m,o⟩:=h;exact⟨vs,m,bB.grow q d l vs o⟩
 | .fn f l,v,h=>by
  simp only[bI]at h ⊢;obtain⟨vs,m,o⟩:=h;exact⟨vs,m,bB.grow q d l vs o⟩
 | .mag n,v,h=>by simp only[bI]at h ⊢;exact h.grow q d
 | .fp b i f,v,h=>by simpa [bI]using h
 | .bset p,v,h=>by simpa [bI]using h
 | .any,v,h=>by simp[bI]
 | .nfn,v,h=>by simpa [bI]using h
 | .mfn f l,v,h=>by
  simp only[bI]at h ⊢;obtain⟨vs,m,o⟩:=h;exact⟨vs,m,bB.grow q d l vs o⟩
theorem bB.grow{M M':Nat->Prop}{w w':TO}(b:NoU M w)(c:dA M M' w w'):∀(l:List AV) (vs:List TM),bB w M l vs->bB w' M' l vs
 | [],[],_=>by simp[bB]
 | a::l,v::vs,h=>by
  simp only[bB]at h ⊢;exact⟨bI.grow b c a v h.1,bB.grow b c l vs h.2⟩
 | [],_::_,h=>by simp[bB]at h
 | _::_,[],h=>by simp[bB]at h
end
def cI(f:Nat)(args:List AV)(S:St)(post:AV->St->Prop):Prop :=
 ∀(w:TO) (vs:List TM),eF w S->bB w S.dom args vs->Uq ak f vs.toArray w (fun e w' =>
  ∃v r S',e=.returned v/\post r S'/\bI w' S'.dom r v/\eF w' S'/\dA S.dom S'.dom w w')
def cI.mono(h:cI f args S post)(a:∀r S',post r S'->post' r S'):cI f args S post' :=
 fun w vs b c=>(h w vs b c).mono fun _ _ ⟨v,r,S',d,e,g⟩=>⟨v,r,S',d,a r S' e,g⟩

abbrev Tm:=Nat->AV
variable{O:Tm}
def Tm.put_ex:∃p:Tm->Option Nat->AV->Tm,∀O d x,p O d x=(match d with
 | some d=>fun t=>if t=d then x else O t
 | ae=>O):=⟨_,fun _ _ _=>rfl⟩
noncomputable def Tm.put:Tm->Option Nat->AV->Tm:=fP Tm.put_ex
def Tm.put_eq(O:Tm)(d:Option Nat)(x:AV):O.put d x=(match d with
 | some d=>fun t=>if t=d then x else O t
 | ae=>O):=dj Tm.put_ex O d x
def ofV:TM->AV
 | TQ k n=>.int k n
 | TR b=>.bool b
 | TK ae 0 0=>.nil
 | _=>.any
def ev(O:Tm):UL->AV
 | .tmp t=>O t
 | .const v=>ofV v
 | .global g=>.ptr 1 g 0
 | .func f=>.fn f []
def Oh(w:TO)(M:Nat->Prop)(v:TM):bI w M (ofV v) v:=by
 unfold ofV;split<;>simp[bI]
structure RT(O:Tm)(S:St)(N:Nat)(a:Act)(w:TO):Prop where
 defers:a.defers=[]
 size:a.tmps.size=N
 tm:∀t,bI w S.dom (O t) (a.tmps.getD t Ut)
 st:eF w S
def RT.ev(h:RT O S N a w)(x:UL):bI w S.dom (ev O x) (a.eval x):=by
 cases x with
 | tmp t=>exact h.tm t
 | const v=>exact Oh _ _ v
 | global g=>simp only[Go.Proofs.YtdobfmlmenaajaaGreatDoor.ev,bI,dO];rfl
 | func f=>simp only[Go.Proofs.YtdobfmlmenaajaaGreatDoor.ev,bI];exact⟨[],rfl,by simp[bB]⟩
def RT.put(h:RT O S N a w)(g:dA S.dom S'.dom w w')(f:eF w' S'){d:Option Nat}(i:∀k,d=ho k->k<N){x:AV}{v:TM}(j:bI w' S'.dom x v) :
  RT (O.put d x) S' N (a.put d v) w':=by
 have b:∀t,bI w' S'.dom (O t) (a.tmps.getD t Ut):=fun t=>bI.grow h.st.noU g _ _ (h.tm t)
 cases d with
 | none=>rw[Tm.put_eq];exact⟨h.defers,h.size,b,f⟩
 | some d =>
  refine⟨h.defers,by simp[Act.put,h.size],fun t=>?_,f⟩
  have c:=i d rfl;simp only[Tm.put_eq,Act.put];by_cases e:t=d
  .subst e;have:(a.tmps.setIfInBounds t v).getD t Ut=v:=by
    simp[Array.getD,h.size,c]
   rw[aj rfl,this];exact j
  .have:(a.tmps.setIfInBounds d v).getD t Ut=a.tmps.getD t Ut:=by
    simp only[cT];rw[dM (ai e)]
   rw[ah e,this];exact b t
def H7(op:BinOp)(t:TW)(x y:AV)(K:AV->Prop):Prop:=match x,y with
 | .int k a,.int k' b=>k=k'/\(match op with
  | .add=>K (.int k (k.wrap (a+b)))
  | .sub=>K (.int k (k.wrap (a-b)))
  | .mul=>K (.int k (k.wrap (a*b)))
  | .quo=>b≠0/\K (.int k (k.wrap (a.tdiv b)))
  | .rem=>b≠0/\K (.int k (a.tmod b))
  | .eql=>K (.bool (a==b))
  | .neq=>K (.bool (a != b))
  | .lss=>K (.bool (decide (a<b)))
  | .leq=>K (.bool (decide (a<=b)))
  | .gtr=>K (.bool (decide (b<a)))
  | .geq=>K (.bool (decide (b<=a)))
  | _=>False)
 | .bool a,.bool b=>t=4/\(match op with
  | .eql=>K (.bool (a==b))
  | .neq=>K (.bool (a != b))
  | _=>False)
 | .bset p,.bset q=>t=4/\op=.neq/\K (.bset (fun s=>∃a b,p a/\q b/\s=(a != b)))
 | .sl _ _ _ _,.nil=>(t=29/\op=.eql)/\K (.bool TJ)
 | .lst _ n _,.nil=>(t=29/\op=.eql/\0<n)/\K (.bool TJ)
 | .nil,.nil=>(t=29/\op=.eql)/\K (.bool TN)
 | _,_=>False
def AO(h:H7 op ty x y K){w:TO}{M:Nat->Prop}{vx vy:TM}(d:bI w M x vx)(e:bI w M y vy)(ox oy:UL) :
  ∃z v,K z/\bI w M z v/\(do Us op ty ox oy vx vy;UO op ty vx vy:Sem TM).run ak w=.ok v w:=by
 have f:∀(w:TO) (a:Option Ve) (n c n' c':Nat),(UO .eql 29 (TK a n c) (TK Ud n' c')).run ak w=.ok (TR a.isNone) w:=fun w a n c n' c'=>AW w _ _ a n c n' c' underlying29;unfold H7 at h;split at h
 .rename_i k a k' b;obtain⟨rfl,h⟩:=h;simp only[bI]at d e;subst d e;split at h
  .exact⟨_,TQ k (k.wrap (a+b)),h,by simp[bI],by simp[Us,UO,Op.intArith]⟩
  .exact⟨_,TQ k (k.wrap (a-b)),h,by simp[bI],by simp[Us,UO,Op.intArith]⟩
  .exact⟨_,TQ k (k.wrap (a*b)),h,by simp[bI],by simp[Us,UO,Op.intArith]⟩
  .exact⟨_,TQ k (k.wrap (a.tdiv b)),h.2,by simp[bI],by simp[Us,UO,WE,h.1]⟩
  .exact⟨_,TQ k (a.tmod b),h.2,by simp[bI],by simp[Us,UO,WE,h.1]⟩
  .exact⟨_,TR (a==b),h,by simp[bI],by simp[Us,UO,UY]⟩
  .exact⟨_,TR (a != b),h,by simp[bI],by simp[Us,UO,UY]⟩
  .exact⟨_,TR (decide (a<b)),h,by simp[bI],by simp[Us,UO,UY]⟩
  .exact⟨_,TR (decide (a<=b)),h,by simp[bI],by simp[Us,UO,UY]⟩
  .exact⟨_,TR (decide (b<a)),h,by simp[bI],by simp[Us,UO,UY]⟩
  .exact⟨_,TR (decide (b<=a)),h,by simp[bI],by simp[Us,UO,UY]⟩
  .exact h.elim
 .rename_i a b;obtain⟨rfl,h⟩:=h;simp only[bI]at d e;subst d e;have i:(Vm 4).run ak w=.ok .bool w:=by
   simp[Vm,Cy]
  have g:(Op.equal 4 (TR a) (TR b)).run ak w=.ok (a==b) w:=by
   unfold Op.equal Op.maxDepth;rw[Op.equalIn];simp[i]
  split at h
  .exact⟨_,TR (a==b),h,by simp[bI],by simp[Us,UO,g]⟩
  .exact⟨_,TR (a != b),h,by simp[bI],by simp[Us,UO,g];cases a<;>cases b<;>rfl⟩
  .exact h.elim
 .rename_i p q;obtain⟨rfl,rfl,h⟩:=h;simp only[bI]at d e;obtain⟨a,rfl,l⟩:=d;obtain⟨b,rfl,j⟩:=e;have i:(Vm 4).run ak w=.ok .bool w:=by
   simp[Vm,Cy]
  have g:(Op.equal 4 (TR a) (TR b)).run ak w=.ok (a==b) w:=by
   unfold Op.equal Op.maxDepth;rw[Op.equalIn];simp[i]
  exact⟨_,TR (a != b),h,by simp only[bI];exact⟨_,rfl,a,b,l,j,rfl⟩,by simp[Us,UO,g];cases a<;>cases b<;>rfl⟩
 .obtain⟨⟨rfl,rfl⟩,h⟩:=h;simp only[bI]at d e;obtain⟨cap,cs,ty,fr,rfl,_⟩:=d;subst e;exact⟨_,TR TJ,h,by simp[bI],by simp[Us,f]⟩
 .obtain⟨⟨rfl,rfl,m⟩,h⟩:=h;simp only[bI]at d e;obtain⟨A,c,rfl,_,j⟩:=d;obtain⟨b,off,rfl,_⟩:=j m;subst e;exact⟨_,TR TJ,h,by simp[bI],by simp[Us,f]⟩
 .obtain⟨⟨rfl,rfl⟩,h⟩:=h;simp only[bI]at d e;subst d e;exact⟨_,TR TN,h,by simp[bI],by simp[Us,f]⟩
 .exact h.elim

def fI:TW->Option (Nat×Nat)
 | 2=>ho (1,1)|3=>ho (1,1)|4=>ho (1,1)|5=>ho (1,1)|22=>ho (1,1)|25=>ho (1,1)|28=>ho (1,1)|29=>ho (1,1)
 | 34=>ho (1,1)|41=>ho (1,1)|48=>ho (1,1)|52=>ho (1,1)|59=>ho (1,1)|97=>ho (1,1)|146=>ho (1,1)|158=>ho (1,1)|192=>ho (1,1)|216=>ho (1,1)
 | 50=>ho (2,1)|167=>ho (2,2)|195=>ho (2,2)|197=>ho (2,7)
 | 24=>ho (1,4)|27=>ho (1,6)|107=>ho (1,2)|160=>ho (1,4)|183=>ho (1,2)|202=>ho (1,2)|238=>ho (1,3)|239=>ho (1,8)|218=>ho (1,2)
 | _=>ae
def KI:TypeDesc->Bool
 | .struct _=>true
 | .array _ _=>true
 | _=>false
def Lo(P:Vb)(t es k:Nat):Bool:=match P.info? t,P.underlying t with
 | some i,ho d=>i.size==es*k&&(if KI d then es*k != 1 else es==1&&k==1)
 | _,_=>false
def rZ{t:Nat}(h:fI t=ho (es,k)):Lo ak t es k=TN/\(es=1∨es=2)/\0<k:=by
 unfold fI at h;split at h<;>first
  | (cases h;refine⟨by kernel_rfl,om,om⟩)
  | cases h
def zt{t:Nat}(h:Lo ak t es k=TN):∃i d,ak.info? t=ho i/\i.size=es*k/\ak.underlying t=ho d/\((KI d=TN/\es*k≠1)∨(KI d=TJ/\es=1/\k=1)):=by
 unfold Lo at h;split at h
 .rename_i i d c e;simp only[cV,vV]at h;refine⟨i,d,c,h.1,e,?_⟩;have a:=h.2;split at a
  .rename_i b;exact a6 ⟨b,by simpa using a⟩
  .rename_i b;simp at a;exact aQ ⟨by simpa using b,a.1,a.2⟩
 .cases h
def ed(g:Nat->AV)(i:Nat):Nat->List AV
 | 0=>[]
 | k+1=>g i::ed g (i+1) k
def sc(h:one u):u.cells=#[u]:=by cases u<;>first|rfl|exact h.elim
def oL{off:Nat}{cs:Array TM}(h:w.heap[b]? = ho (TP cs ty fr)):w.cell? ⟨b,off,ae⟩=cs[off]?:=by
 simp[World.cell?,h]
def iU(b off k:Nat):(⟨b,off,ae⟩:Ve).add k=⟨b,off+k,ae⟩:=by
 unfold Addr.add;split<;>simp_all
theorem sL{w:TO}{b:Nat}{cs:Array TM}{ty:TW}{fr:Nat×Nat}(h:w.heap[b]? = ho (TP cs ty fr))(off:Nat)(P:Vb) :
  ∀(l:List TM) (i:Nat) (acc:Array TM),(∀j,j<l.length->cs[off+i+j]? = l[j]?)->(Vj ⟨b,off,ae⟩ i l.length acc).run P w=.ok (acc++l.toArray) w
 | [],i,acc,_=>by simp[Vj]
 | v::l,i,acc,a=>by
  have c:=a 0 sm
  simp only[cB,dE]at c;have ih:=sL h off P l (i+1) (acc.push v) (fun j d=>by
   have:=a (j+1) (by simp;omega)
   rw[dd]at this;rw[<-this];congr 1;omega)
  simp only[cL,Vj];simp only[load,iU];simp[Sem.run,bind,Sem.bind,oL h,c];simpa using ih
def B9(a:ak.underlying t=ho d)(w:TO):(isAgg t).run ak w=.ok (KI d) w:=by
 simp only[isAgg,j9,bM a,ir]
 cases d<;>rfl
def de(a:ak.info? t=ho i)(w:TO):(Wo t).run ak w=.ok i.size w:=by
 simp[Wo,Uw,a]
def rf{off t:Nat}{cs:Array TM}(h:w.heap[b]? = ho (TP cs ty fr))(e:fI t=ho (es,k))(f:es*k≠1)
  (l:List TM) (g:l.length=es*k) (m:∀j,j<l.length->cs[off+j]? = l[j]?) :
  (UC t (Uk (ho ⟨b,off,ae⟩))).run ak w=.ok (Uf l.toArray) w:=by
 obtain⟨c,u,_⟩:=rZ e;obtain⟨i,d,n,o,p,a⟩:=zt c;have q:KI d=TN:=a.elim (fun a=>a.1) (fun a=>by rw[a.2.1,a.2.2]at f;omega)
 have r:=sL h off ak l 0 #[] (fun j s=>by rw[cB];exact m j s)
 simp only[UC,Uy,pure_bind,loadVar,j9,B9 p,q,ir,aH,de n,loadCells];rw[o,<-g,r];simp
def r7{off t:Nat}{cs:Array TM}(h:w.heap[b]? = ho (TP cs ty fr))(e:fI t=ho (es,1))(c:reads cs off es u) :
  (UC t (Uk (ho ⟨b,off,ae⟩))).run ak w=.ok u w:=by
 obtain⟨f,g,_⟩:=rZ e;rcases g with rfl|rfl
 .obtain⟨i,d,r,s,k,a⟩:=zt f;have l:KI d=TJ:=a.elim (fun a=>absurd rfl a.2) (fun a=>a.1);simp only[reads]at c;simp only[UC,Uy,pure_bind,loadVar,j9,B9 k,l,ir];simp[oL h,c.1]
 .simp only[reads]at c;obtain⟨x,y,rfl,m,n,o,p⟩:=c;exact rf h e om [x,y] rfl (fun j q=>by
   match j with
   | 0=>simpa using o
   | 1=>simpa using p
   | j+2=>simp at q;omega)
theorem nY{w:TO}{M:Nat->Prop}{cs:Array TM}{es n:Nat}{g:Nat->AV}(b:∀j,j<n->∃u,reads cs (es*j) es u/\bI w M (g j) u) :
  ∀(k i:Nat),i+k<=n->∃vs:List TM,bB w M (ed g i k) vs/\(vs.flatMap (fun u=>u.cells.toList)).length=es*k/\∀j,j<es*k->cs[es*i+j]? = (vs.flatMap (fun u=>u.cells.toList))[j]?
 | 0,i,_=>⟨[],by simp[ed,bB],sm,fun j b=>by simp at b⟩
 | k+1,i,o=>by
  obtain⟨u,c,f⟩:=b i om;obtain⟨vs,e,h,l⟩:=nY b k (i+1) om;have a:u.cells.toList.length=es/\∀j,j<es->cs[es*i+j]? = u.cells.toList[j]?:=by
   match es,c with
   | 1,c =>
    simp only[reads]at c;rw[sc c.2];exact⟨rfl,fun j b=>by
     obtain rfl:j=0:=om
     simpa using c.1⟩
   | 2,c =>
    simp only[reads]at c;obtain⟨x,y,rfl,_,_,m,e⟩:=c;refine⟨rfl,fun j b=>?_⟩
    match j with
    | 0=>simpa [TV]using m
    | 1=>simpa [TV]using e
    | j+2=>omega
  refine⟨u::vs,by simp only[ed,bB];exact⟨f,e⟩,by simp only[ei,CH,a.1,h];rw[eG];omega,fun j b=>?_⟩
  simp only[ei];by_cases d:j<es
  .rw[fQ (by rw[a.1];exact d)];exact a.2 j d
  .rw[fF (by rw[a.1];omega),a.1,<-l (j-es) (by rw[eG]at b;omega)]
   congr 1;rw[eG];omega
def rL(t:TW)(x:AV)(S:St)(K:AV->Prop):Prop:=match x with
 | .pat es y=>fI t=ho (es,1)/\K y
 | .ptr es b i=>(match S b with
  | some X=>(match fI t with
   | some (es',k)=>es'=es/\X.es=es/\i+k<=X.n/\K (if k=1 then X.g i else .agg (ed X.g i k))
   | ae=>False)
  | ae=>t=239/\es=1/\b=0/\i=0/\K (.agg (wD.map fun z=>.int Uc z)))
 | .fp b i f=>(match S b with
  | some X=>X.es=2/\i<X.n/\(match X.g i with
   | .big z=>if t=48/\f=1 then K (.mag z.natAbs)else if t=4/\f=0 then K (.bset (fun s=>sg s z.natAbs=z))else False
   | _=>False)
  | ae=>False)
 | _=>False
def rK(h:rL t x S K){w:TO}(D:eF w S){vx:TM}(d:bI w S.dom x vx) :
  ∃z v,K z/\bI w S.dom z v/\(UC t vx).run ak w=.ok v w:=by
 cases x with
 | pat es y =>
  simp only[rL]at h;simp only[bI]at d;obtain⟨b,off,u,rfl,_,_,⟨cs,ty,fr,m,l⟩,o⟩:=d;exact⟨_,u,h.2,o,r7 m h.1 l⟩
 | ptr es b i =>
  simp only[rL]at h
  cases q:S b with
  | none =>
   rw[q]at h;obtain⟨rfl,rfl,rfl,rfl,r⟩:=h;obtain⟨cs,ty,E,C⟩:=D.gl;simp only[bI]at d;subst d;refine⟨_,Uf (wD.map fun z=>dx Uc z).toArray,r,?_,rf E (show fI 239=ho (1,8) by decide) dc (wD.map fun z=>dx Uc z) rfl fun j a=>?_⟩
   .simp only[bI];exact⟨wD.map fun z=>dx Uc z,rfl,by simp[wD,bB,bI]⟩
   .rw[dO,aM,C j a];rcases (show j=0∨j=1∨j=2∨j=3∨j=4∨j=5∨j=6∨j=7 by simp[wD]at a;omega)with rfl|rfl|rfl|rfl|rfl|rfl|rfl|rfl<;>rfl
  | some X =>
   rw[q]at h
   cases s:fI t with
   | none=>rw[s]at h;exact h.elim
   | some p =>
    obtain⟨es',k⟩:=p;rw[s]at h;obtain⟨rfl,rfl,O,r⟩:=h;simp only[bI]at d;subst d;obtain⟨cs,m,F,a,G⟩:=D b X q;by_cases B:k=1
    .subst B;obtain⟨u,l,o⟩:=a i om;rw[aj rfl]at r;exact⟨_,u,r,o,r7 m s l⟩
    .obtain⟨vs,E,C,P⟩:=nY a k i O;rw[ah B]at r;have l:bI w S.dom (.agg (ed X.g i k)) (Uf (vs.flatMap (fun u=>u.cells.toList)).toArray):=by
      simp only[bI];exact⟨vs,rfl,E⟩
     refine⟨_,_,r,l,rf m s ?_ _ C (fun j a=>P j (by rw[<-C];exact a))⟩
     obtain⟨_,H,Q⟩:=rZ s;intro e;rcases H with M|M<;>rw[M]at e<;>omega
 | fp b i f =>
  simp only[rL]at h
  cases q:S b with
  | none=>rw[q]at h;exact h.elim
  | some X =>
   rw[q]at h;obtain⟨I,J,h⟩:=h;simp only[bI]at d;subst d;obtain⟨cs,m,F,a,G⟩:=D b X q;obtain⟨u,l,o⟩:=a i J;rw[I]at l
   cases R:X.g i<;>rw[R]at h o<;>try exact h.elim
   rename_i z;simp only[bI]at o;obtain⟨neg,A,n,c,xs,rfl,L,T,U,rfl⟩:=o;obtain⟨x,y,H,ox,oy,V,W⟩:=l
   cases H
   have N:(sg neg (bC xs)).natAbs=bC xs:=by cases neg<;>simp[sg]
   simp only at h;split at h
   .rename_i e;obtain⟨rfl,rfl⟩:=e;refine⟨_,TK A n c,h,?_,r7 m (rfl:fI 48=ho (1,1)) ⟨W,oy⟩⟩;simp only[bI];exact⟨TJ,A,n,c,xs,rfl,L,T,U,by rw[N];simp[sg]⟩
   .split at h
    .rename_i e;obtain⟨rfl,rfl⟩:=e;exact⟨_,TR neg,h,by simp only[bI];exact⟨neg,rfl,by rw[N]⟩,r7 m (rfl:fI 4=ho (1,1)) ⟨V,ox⟩⟩
    .exact h.elim
 | _=>exact h.elim

def fL(w:TO)(b:Nat)(cs:Array TM)(ty:TW):TO:={ w with heap:=w.heap.setIfInBounds b (TP cs ty (0,0)) }
def jF(a:b<w.heap.size)(cs:Array TM)(ty:TW)(k:Nat):(fL w b cs ty).heap[k]? = if k=b then ho (TP cs ty (0,0))else w.heap[k]?:=by
 simp only[fL];by_cases e:k=b
 .subst e;simp[a]
 .rw[ah e,dM (ai e)]
def CR(w:TO)(b:Nat)(cs:Array TM)(ty:TW):(fL w b cs ty).heap.size=w.heap.size:=by simp[fL]
def CS{cs:Array TM}(h:w.heap[b]? = ho (TP cs ty (0,0))):fL w b cs ty=w:=by
 unfold fL;have:w.heap.setIfInBounds b (TP cs ty (0,0))=w.heap:=by
  apply qY;intro i;by_cases e:i=b
  .subst e;rw[iF (fN h),h]
  .rw[dM (ai e)]
 rw[this]
def yn(w:TO)(b:Nat)(c a:Array TM)(ty:TW):fL (fL w b c ty) b a ty=fL w b a ty:=by
 simp[fL]
def yq{off:Nat}{cs:Array TM}(h:w.heap[b]? = ho (TP cs ty (0,0)))(u:TM):w.setCell ⟨b,off,ae⟩ u=fL w b (cs.setIfInBounds off u) ty:=by
 unfold World.setCell fL;congr 1;apply qY;intro i;rw[Sc];by_cases e:b=i
 .subst e;rw[aj rfl,h,iF (fN h)];rfl
 .rw[ah e,dM e]
def eS(cs:Array TM)(o:Nat):List TM->Array Value
 | []=>cs
 | v::l=>eS (cs.setIfInBounds o v) (o+1) l
theorem iH:∀(l:List TM) (cs:Array TM) (o:Nat),(eS cs o l).size=cs.size
 | [],_,_=>rfl
 | v::l,cs,o=>by simp[eS,iH l]
theorem iS:∀(l:List TM) (cs:Array TM) (o j:Nat),o+l.length<=cs.size->(eS cs o l)[j]? = if o<=j/\j<o+l.length then l[j-o]? else cs[j]?
 | [],cs,o,j,_=>by rw[ah (by simp only[iu];omega)];rfl
 | v::l,cs,o,j,h=>by
  simp only[cL]at h;rw[eS,iS l _ (o+1) j (by simp;omega)]
  by_cases e:j=o
  .subst e;rw[ah om,aj sm,iF om];simp
  .rw[dM (ai e)];by_cases a:o+1<=j/\j<o+1+l.length
   .rw[aj a,aj (by simp;omega),(om:j-o=(j-(o+1))+1),dd]
   .rw[ah a,ah (by simp;omega)]
theorem kg(P:Vb){b off:Nat}{ty:TW}:∀(l:List TM) (w:TO) (cs:Array TM) (i:Nat),w.heap[b]? = ho (TP cs ty (0,0))->off+i+l.length<=cs.size->(∀u∈l,one u) ->
  (Vl ⟨b,off,ae⟩ l i).run P w=.ok () (fL w b (eS cs (off+i) l) ty)
 | [],w,cs,i,h,_,_=>by simp[Vl,eS,CS h]
 | v::l,w,cs,i,h,f,e=>by
  simp only[cL]at f;have g:=e v (fE ..);have hcell:w.cell? ⟨b,off+i,ae⟩=cs[off+i]?:=oL h;have a:cs[off+i]? = ho cs[off+i]:=dy om;have c:w.frozen? ⟨b,off+i,ae⟩=TJ:=by simp[World.frozen?,h]
  have d:(store ⟨b,off+i,ae⟩ v).run P w=.ok () (fL w b (cs.setIfInBounds (off+i) v) ty):=by
   cases v<;>first|exact g.elim|simp[store,Sem.run,hcell,a,c,yq h]
  have ih:=kg P (b:=b) (off:=off) (ty:=ty) l (fL w b (cs.setIfInBounds (off+i) v) ty) (cs.setIfInBounds (off+i) v) (i+1)
   (by rw[jF (fN h),aj rfl]) (by simp;omega) (fun u j=>e u (eh _ j))
  simp only[Vl,iU,j9,d,ir,ih,yn,eS];rfl
def dY:Nat->AV->Prop
 | 1,.int k _=>k≠.u32
 | 1,.bool _=>True
 | 1,.nil=>True
 | 1,.sl ..=>True
 | 1,.ptr ..=>True
 | 1,.lst ..=>True
 | 1,.pat ..=>True
 | 1,.fn ..=>True
 | 1,.nfn=>True
 | 1,.mfn ..=>True
 | 2,.big _=>True
 | _,_=>False
def C5(h:dY es y)(a:bI w M y v) :
  (es=1/\one v/\lQ v)∨(es=2/\∃p q,v=Uf #[p,q]/\one p/\one q/\lQ p/\lQ q):=by
 match es,y,h,a with
 | 1,.int k n,h,a =>
  simp only[bI]at a;subst a;refine a6 ⟨rfl,trivial,?_⟩
  cases k<;>first|trivial|exact absurd rfl h
 | 1,.bool _,h,a=>simp only[bI]at a;subst a;exact a6 ⟨rfl,trivial,trivial⟩
 | 1,.nil,h,a=>simp only[bI]at a;subst a;exact a6 ⟨rfl,trivial,trivial⟩
 | 1,.sl ..,h,a=>simp only[bI]at a;obtain⟨_,_,_,_,rfl,_⟩:=a;exact a6 ⟨rfl,trivial,trivial⟩
 | 1,.ptr ..,h,a=>simp only[bI]at a;subst a;exact a6 ⟨rfl,trivial,trivial⟩
 | 1,.lst ..,h,a=>simp only[bI]at a;obtain⟨_,_,rfl,_⟩:=a;exact a6 ⟨rfl,trivial,trivial⟩
 | 1,.pat ..,h,a=>simp only[bI]at a;obtain⟨_,_,_,rfl,_⟩:=a;exact a6 ⟨rfl,trivial,trivial⟩
 | 1,.fn ..,h,a=>simp only[bI]at a;obtain⟨_,rfl,_⟩:=a;exact a6 ⟨rfl,trivial,trivial⟩
 | 1,.nfn,h,a=>simp only[bI]at a;subst a;exact a6 ⟨rfl,trivial,trivial⟩
 | 1,.mfn ..,h,a=>simp only[bI]at a;obtain⟨_,rfl,_⟩:=a;exact a6 ⟨rfl,trivial,trivial⟩
 | 2,.big z,h,a =>
  simp only[bI]at a;obtain⟨neg,A,n,c,xs,rfl,_⟩:=a;exact aQ ⟨rfl,_,_,rfl,trivial,trivial,trivial,trivial⟩
def rW(h:dY es y)(e:bI w M y v) :
  v.cells.size=es/\(∀u∈v.cells.toList,one u/\lQ u)/\∀(cs:Array TM) (o:Nat),(∀j,j<es->cs[o+j]? = v.cells[j]?)->reads cs o es v:=by
 rcases C5 h e with⟨rfl,a,c⟩|⟨rfl,p,q,rfl,a,c,f,g⟩
 .rw[sc a];refine⟨rfl,fun u b=>by simp at b;subst b;exact⟨a,c⟩,fun cs o d=>?_⟩
  have:=d 0 om;simp only[reads];exact⟨by simpa using this,a⟩
 .refine⟨rfl,fun u b=>?_,fun cs o d=>?_⟩
  .simp[TV]at b;rcases b with rfl|rfl
   .exact⟨a,f⟩
   .exact⟨c,g⟩
  .simp only[reads];exact⟨p,q,rfl,a,c,by simpa [TV]using d 0 om,by simpa [TV]using d 1 om⟩
def NR(h:S b≠ae):(S.upd b X).dom=S.dom:=by
 funext k;simp only[St.dom,St.upd];by_cases e:k=b
 .subst e;simp[h]
 .simp[e]
def eF.write(f:eF w S){b:Nat}{X X':eA}(l:S b=ho X){cs cs':Array TM}(s:w.heap[b]? = ho (TP cs X.ty (0,0)))(o:cs'.size=cs.size)
  (t:X'.ty=X.ty) (v:X'.es*X'.n<=cs'.size) (x:∀j,j<X'.n->∃u,reads cs' (X'.es*j) X'.es u/\bI w S.dom (X'.g j) u) (A:∀(k:Nat) (y:TM),cs'[k]? = ho y->lQ y) :
  eF (fL w b cs' X.ty) (S.upd b X')/\dA S.dom (S.upd b X').dom w (fL w b cs' X.ty):=by
 have a:=fN s;have B:(S.upd b X').dom=S.dom:=NR (by rw[l];simp)
 have m:dA S.dom (S.upd b X').dom w (fL w b cs' X.ty):=by
  rw[B];refine⟨rfl,rfl,rfl,by rw[CR];exact ag _,fun k H C=>?_,fun k c ty fr p=>?_,fun _ _ h=>h⟩
  .rw[jF a,ah];intro e;subst e;exact C (by simp[St.dom,l])
  .rw[jF a];by_cases e:k=b
   .subst e;rw[s]at p;cases p;exact⟨cs',by rw[aj rfl],o⟩
   .exact⟨c,by rw[ah e];exact p,rfl⟩
 refine⟨⟨St.upd0 f.z (fun e=>by subst e;rw[f.z]at l;cases l),f.grow m,fun k Y i=>?_⟩,m⟩
 simp only[St.upd]at i;by_cases e:k=b
 .subst e;rw[aj rfl]at i
  cases i
  refine⟨cs',by rw[jF a,aj rfl,t],v,fun j d=>?_,A⟩
  obtain⟨u,q,r⟩:=x j d;exact⟨u,q,bI.grow f.noU m _ _ r⟩
 .rw[ah e]at i;obtain⟨c,q,r,D,E⟩:=f k Y i;refine⟨c,by rw[jF a,ah e];exact q,r,fun j d=>?_,E⟩
  obtain⟨u,F,G⟩:=D j d;exact⟨u,F,bI.grow f.noU m _ _ G⟩
def eF.new(a:eF w S){X:eA}{cs:Array TM}(p:X.es*X.n<=cs.size)
  (q:∀j,j<X.n->∃u,reads cs (X.es*j) X.es u/\bI w S.dom (X.g j) u) (r:∀(k:Nat) (y:TM),cs[k]? = ho y->lQ y) :
  S w.heap.size=ae/\eF (w.alloc (TP cs X.ty)) (S.upd w.heap.size X)/\dA S.dom (S.upd w.heap.size X).dom w (w.alloc (TP cs X.ty)):=by
 have hnone:S w.heap.size=ae:=by
  cases e:S w.heap.size with
  | none=>rfl
  | some Y =>
   obtain⟨c,d,_⟩:=a _ Y e;exact absurd (fN d) (cw _)
 have h:∀k,(w.alloc (TP cs X.ty)).heap[k]? = if k=w.heap.size then ho (TP cs X.ty (0,0))else w.heap[k]?:=by
  intro k;show(w.heap.push _)[k]? = _;rw[Array.getElem?_push]
 have i:dA S.dom (S.upd w.heap.size X).dom w (w.alloc (TP cs X.ty)):=by
  refine⟨rfl,rfl,rfl,sm,fun k s _=>?_,fun k c ty fr o=>⟨c,?_,rfl⟩,fun k s l=>?_⟩
  .rw[h,ah om]
  .rw[h,ah (by have:=fN o;omega)];exact o
  .simp only[St.dom,St.upd]at l;rw[ah om]at l;exact l
 refine⟨hnone,⟨St.upd0 a.z (by have:=a.gl.pos;omega),a.grow i,fun k Y f=>?_⟩,i⟩
 simp only[St.upd]at f;by_cases e:k=w.heap.size
 .rw[aj e]at f
  cases f
  refine⟨cs,by rw[h,aj e],p,fun j b=>?_,r⟩
  obtain⟨u,d,m⟩:=q j b;exact⟨u,d,bI.grow a.noU i _ _ m⟩
 .rw[ah e]at f;obtain⟨c,d,m,t,v⟩:=a k Y f;refine⟨c,by rw[h,ah e];exact d,m,fun j b=>?_,v⟩
  obtain⟨u,x,A⟩:=t j b;exact⟨u,x,bI.grow a.noU i _ _ A⟩

def Ek(s:Sem TM)(w:TO)(S:St)(K:AV->St->Prop):Prop :=
 ∃z v w' S',K z S'/\bI w' S'.dom z v/\eF w' S'/\dA S.dom S'.dom w w'/\s.run ak w=.ok v w'
def aL(g:Nat->AV)(i:Nat)(y:AV):Nat->AV:=fun j=>if j=i then y else g j
def fy(g:Nat->AV)(i:Nat)(l:List AV):Nat->AV:=fun j=>if i<=j/\j<i+l.length then l.getD (j-i) .any else g j
def tu(t:TW)(x y:AV)(S:St)(K:St->Prop):Prop:=match x with
 | .ptr es b i=>(match S b with
  | some X=>(match fI t with
   | some (es',k)=>es'=es/\X.es=es/\i+k<=X.n/\(if k=1 then dY es y/\K (S.upd b { X with g:=aL X.g i y })else(match y with
    | .agg l=>l.length=k/\(∀z∈l,dY es z)/\K (S.upd b { X with g:=fy X.g i l })
    | _=>False))
   | ae=>False)
  | ae=>False)
 | _=>False
theorem iR{w:TO}{M:Nat->Prop}{es:Nat}:∀(l:List AV) (vs:List TM),bB w M l vs->(∀z∈l,dY es z) ->
  vs.length=l.length/\(vs.flatMap (fun u=>u.cells.toList)).length=es*l.length/\(∀u∈vs.flatMap (fun u=>u.cells.toList),one u/\lQ u) /\
  ∀j,j<l.length->∃u,bI w M (l.getD j .any) u/\∀(cs:Array TM) (o:Nat),(∀q,q<es*l.length->cs[o+q]? = (vs.flatMap (fun u=>u.cells.toList))[q]?)->reads cs (o+es*j) es u
 | [],[],_,_=>⟨rfl,sm,sm,fun j e=>by simp at e⟩
 | a::l,v::vs,d,k=>by
  simp only[bB]at d;have n:=k a (fE ..);obtain⟨p,r,s⟩:=rW n d.1;obtain⟨t,x,y,A⟩:=iR l vs d.2 (fun z B=>k z (eh _ B));have c:v.cells.toList.length=es:=by simpa using p
  refine⟨by simp[t],by simp only[ei,CH,c,x,cL];rw[eG];omega,fun u b=>?_,fun j e=>?_⟩
  .simp only[ei,Jz]at b;rcases b with b|b
   .exact r u b
   .exact y u b
  .simp only[cL]at e
   cases j with
   | zero =>
    refine⟨v,by simpa using d.1,fun cs o f=>?_⟩
    rw[dO,cB];refine s cs o (fun q C=>?_);rw[f q (by rw[cL,eG];omega),ei,fQ om]
    simp
   | succ j =>
    obtain⟨u,g,i⟩:=A j om;refine⟨u,by simpa using g,fun cs o f=>?_⟩
    have:=i cs (o+es) (fun q C=>by
     have m:=f (es+q) (by rw[cL,eG];omega)
     rw[ei,fF om,c,(om:es+q-es=q)]at m
     rw[<-m];congr 1;omega)
    rw[eG,(om:o+(es*j+es)=o+es+es*j)]
    exact this
 | [],_::_,h,_=>by simp[bB]at h
 | _::_,[],h,_=>by simp[bB]at h
def kO{cs:Array TM}{o:Nat}(h:reads cs o es u)(hsame:∀q,q<es->cs'[o+q]? = cs[o+q]?):reads cs' o es u:=by
 match es,h with
 | 1,h=>simp only[reads]at h ⊢;have:=hsame 0 om;simp only[cB]at this;exact⟨by rw[this];exact h.1,h.2⟩
 | 2,h =>
  simp only[reads]at h ⊢;obtain⟨x,y,e,a,b,c,d⟩:=h;have s0:=hsame 0 om;have s1:=hsame 1 om;simp only[cB]at s0;exact⟨x,y,e,a,b,by rw[s0];exact c,by rw[s1];exact d⟩
def qZ(t:eF w S){b:Nat}{X:eA}(v:S b=ho X)(l:List AV)(vs:List TM)(B:bB w S.dom l vs)(C:∀z∈l,dY X.es z)(i:Nat)(D:i+l.length<=X.n) :
  ∃cs,w.heap[b]? = ho (TP cs X.ty (0,0))/\X.es*i+(vs.flatMap (fun u=>u.cells.toList)).length<=cs.size/\(∀u∈vs.flatMap (fun u=>u.cells.toList),one u) /\
   eF (fL w b (eS cs (X.es*i) (vs.flatMap (fun u=>u.cells.toList))) X.ty) (S.upd b { X with g:=fy X.g i l }) /\
   dA S.dom (S.upd b { X with g:=fy X.g i l }).dom w (fL w b (eS cs (X.es*i) (vs.flatMap (fun u=>u.cells.toList))) X.ty):=by
 obtain⟨cs,x,c,E,f⟩:=t b X v;obtain⟨H,m,A,F⟩:=iR l vs B C;have a:X.es*i+(vs.flatMap (fun u=>u.cells.toList)).length<=cs.size:=by
  rw[m,<-bV];exact bQ (aO _ D) c
 refine⟨cs,x,a,fun u f=>(A u f).1,?_⟩;refine eF.write t v x (iH _ _ _) rfl (by rw[iH];exact c) (fun j o=>?_) (fun k y e=>?_)
 .show ∃u,reads _ (X.es*j) X.es u/\bI w S.dom (fy X.g i l j) u;unfold fy;by_cases d:i<=j/\j<i+l.length
  .rw[aj d];obtain⟨u,p,r⟩:=F (j-i) om;refine⟨u,?_,p⟩;have:=r (eS cs (X.es*i) (vs.flatMap (fun u=>u.cells.toList))) (X.es*i) (fun q G=>by
    rw[iS _ _ _ _ a,aj (by rw[m];omega)];congr 1;omega)
   rw[<-bV,(om:i+(j-i)=j)]at this
   exact this
  .rw[ah d];obtain⟨u,p,r⟩:=E j o;refine⟨u,kO p (fun q G=>?_),r⟩;rw[iS _ _ _ _ a,ah];rw[m];intro I;have s:j<i∨i+l.length<=j:=om
   rcases s with h|h
   .have:X.es*(j+1)<=X.es*i:=aO _ h;rw[eG]at this;omega
   .have:X.es*(i+l.length)<=X.es*j:=aO _ h;rw[bV]at this;omega
 .rw[iS _ _ _ _ a]at e;split at e
  .exact(A y (gM e)).2
  .exact f k y e
def JM(g:Nat->AV)(i:Nat)(y:AV):fy g i [y]=aL g i y:=by
 funext j;simp only[fy,aL,cL,iu];by_cases e:j=i
 .subst e;rw[aj om,aj rfl];simp
 .rw[ah om,ah e]
def xL{off t:Nat}{cs:Array TM}(h:w.heap[b]? = ho (TP cs ty (0,0)))(g:fI t=ho (es,k))(v:TM)(j:v.cells.size=es*k)
  (a:off+v.cells.size<=cs.size) (l:∀u∈v.cells.toList,one u) :
  (Vk t (Uk (ho ⟨b,off,ae⟩)) v).run ak w=.ok () (fL w b (eS cs off v.cells.toList) ty):=by
 obtain⟨c,_,_⟩:=rZ g;obtain⟨i,d,m,n,o,p⟩:=zt c;have f:=kg ak (b:=b) (off:=off) (ty:=ty) v.cells.toList w cs 0 h (by simpa using a) l
 rw[cB]at f;have e:¬(v.cells.size≠i.size):=by rw[n,j];simp
 simp only[Vk,Uy,pure_bind,storeVar,j9,de m,ir];rw[ah e];simp[f]
def D4{K:St->Prop}(h:tu t x y S K){w:TO}(r:eF w S){vx vy:TM}(s:bI w S.dom x vx)(m:bI w S.dom y vy) :
  ∃w' S',K S'/\eF w' S'/\dA S.dom S'.dom w w'/\(Vk t vx vy).run ak w=.ok () w':=by
 cases x with
 | ptr es b i =>
  simp only[tu]at h
  cases n:S b with
  | none=>rw[n]at h;exact h.elim
  | some X =>
   rw[n]at h
   cases o:fI t with
   | none=>rw[o]at h;exact h.elim
   | some p =>
    obtain⟨es',k⟩:=p;rw[o]at h;obtain⟨rfl,rfl,v,c⟩:=h;simp only[bI]at s;subst s;by_cases d:k=1
    .subst d;rw[aj rfl]at c;obtain⟨cs,q,a,e,f,g⟩:=qZ r n [y] [vy] (by simp only[bB];exact⟨m,trivial⟩) (fun z A=>by simp at A;subst A;exact c.1) i (by simpa using v)
     simp only[ei,Tl,JA]at a e f g;rw[JM]at f g;refine⟨_,_,c.2,f,g,?_⟩;obtain⟨E,_,_⟩:=rW c.1 m;exact xL q o vy (by rw[E,sD]) (by simpa using a) e
    .rw[ah d]at c
     cases y with
     | agg l =>
      simp only at c;obtain⟨B,j,c⟩:=c;simp only[bI]at m;obtain⟨vs,rfl,C⟩:=m;obtain⟨cs,q,a,e,f,g⟩:=qZ r n l vs C j i (by rw[B];exact v)
      refine⟨_,_,c,f,g,?_⟩;obtain⟨_,D,_,_⟩:=iR l vs C j;generalize vs.flatMap (fun u=>u.cells.toList)=fl at a e D ⊢;exact xL (off:=X.es*i) q o (Uf fl.toArray) (by show fl.toArray.size=_;rw[ct,D,B]) (by show _+fl.toArray.size<=_;rw[ct];exact a) e
     | _=>exact c.elim
 | _=>exact h.elim

def eC.zero(w:TO):eC w w.heap.size (Uf #[TR TJ,TK ae 0 0]) 0 :=
 ⟨TJ,ae,0,0,[],rfl,ag _,⟨rfl,by simp[mX],fun h=>absurd h om⟩,by intro x a;simp at a,by simp[bC,sg]⟩
def fZ:TW->Option (Nat×AV×TM)
 | 2=>ho (1,.int Uc 0,TQ Uc 0)
 | 3=>ho (1,.int Uc 0,TQ Uc 0)
 | 4=>ho (1,.bool TJ,TR TJ)
 | 28=>ho (1,.nil,TK ae 0 0)
 | 29=>ho (1,.nil,TK ae 0 0)
 | 52=>ho (1,.nil,TK ae 0 0)
 | 59=>ho (1,.nil,TK ae 0 0)
 | 50=>ho (2,.big 0,Uf #[TR TJ,TK ae 0 0])
 | _=>ae
def ml(P:Vb)(t:TW):Option (TM×Nat×Nat):=(P.info? t).bind fun i=>i.zero.map fun z=>(z,i.size,i.bytes)
def pn{t:Nat}(h:fZ t=ho (es,x,z)):∃i,ak.info? t=ho i/\i.zero=ho z/\i.size=es/\i.bytes<=32/\0<es/\z.cells.size=es/\dY es x/\∀w M,bI w M x z:=by
 have key:∀(z':TM) (s b:Nat),ml ak t=ho (z',s,b)->b<=32->∃i,ak.info? t=ho i/\i.zero=ho z'/\i.size=s/\i.bytes<=32:=by
  intro z' s b f j;unfold ml at f
  cases g:ak.info? t with
  | none=>rw[g]at f;simp at f
  | some i =>
   rw[g]at f;simp only[dS,eY,jV]at f;obtain⟨z2,a,c,d,e⟩:=f;exact⟨i,rfl,by rw[a,c],d,om⟩
 unfold fZ at h;split at h
 .cases h;obtain⟨i,a,c,d,e⟩:=key (TQ Uc 0) 1 8 kr om;exact⟨i,a,c,d,e,om,rfl,by simp[dY],fun w M=>by simp[bI]⟩
 .cases h;obtain⟨i,a,c,d,e⟩:=key (TQ Uc 0) 1 8 kr om;exact⟨i,a,c,d,e,om,rfl,by simp[dY],fun w M=>by simp[bI]⟩
 .cases h;obtain⟨i,a,c,d,e⟩:=key (TR TJ) 1 1 kr om;exact⟨i,a,c,d,e,om,rfl,by simp[dY],fun w M=>by simp[bI]⟩
 .cases h;obtain⟨i,a,c,d,e⟩:=key (TK ae 0 0) 1 24 kr om;exact⟨i,a,c,d,e,om,rfl,by simp[dY],fun w M=>by simp[bI]⟩
 .cases h;obtain⟨i,a,c,d,e⟩:=key (TK ae 0 0) 1 24 kr om;exact⟨i,a,c,d,e,om,rfl,by simp[dY],fun w M=>by simp[bI]⟩
 .cases h;obtain⟨i,a,c,d,e⟩:=key (TK ae 0 0) 1 24 kr om;exact⟨i,a,c,d,e,om,rfl,by simp[dY],fun w M=>by simp[bI]⟩
 .cases h;obtain⟨i,a,c,d,e⟩:=key (TK ae 0 0) 1 24 kr om;exact⟨i,a,c,d,e,om,rfl,by simp[dY],fun w M=>by simp[bI]⟩
 .cases h;obtain⟨i,a,c,d,e⟩:=key (Uf #[TR TJ,TK ae 0 0]) 2 32 kr om;exact⟨i,a,c,d,e,om,rfl,by simp[dY],fun w M=>by simp only[bI];exact eC.zero w⟩
 .cases h
def lX(c:eF w S){es:Nat}(t:TW)(l:List AV)(vs:List TM)(d:bB w S.dom l vs)(e:∀z∈l,dY es z) :
  S w.heap.size=ae/\eF (w.alloc (TP (vs.flatMap (fun u=>u.cells.toList)).toArray t)) (S.upd w.heap.size ⟨t,es,l.length,fun j=>l.getD j .any⟩) /\
   dA S.dom (S.upd w.heap.size ⟨t,es,l.length,fun j=>l.getD j .any⟩).dom w (w.alloc (TP (vs.flatMap (fun u=>u.cells.toList)).toArray t))/\(vs.flatMap (fun u=>u.cells.toList)).length=es*l.length:=by
 obtain⟨n,a,f,g⟩:=iR l vs d e;have:=eF.new c (X:=⟨t,es,l.length,fun j=>l.getD j .any⟩) (cs:=(vs.flatMap (fun u=>u.cells.toList)).toArray) (by simp only[ct];rw[a];exact ag _) (fun j h=>by
   obtain⟨u,i,m⟩:=g j h;refine⟨u,?_,i⟩;have:=m (vs.flatMap (fun u=>u.cells.toList)).toArray 0 (fun q _=>by simp)
   simpa using this) (fun k y b=>by
   rw[fz]at b;exact(f y (gM b)).2)
 exact⟨this.1,this.2.1,this.2.2,a⟩
theorem kv{w:TO}{M:Nat->Prop}{x:AV}{v:TM}(h:bI w M x v):∀n,bB w M (cp n x) (cp n v)
 | 0=>by simp[bB]
 | n+1=>by simp only[kc,bB];exact⟨h,kv h n⟩
def eF.reg{Y:eA}(h:eF w (S.upd b X))(m:Y.ty=X.ty)(f:Y.es=X.es)(i:Y.n=X.n)(o:∀j,j<X.n->Y.g j=X.g j):eF w (S.upd b Y)/\(S.upd b Y).dom=(S.upd b X).dom:=by
 have l:(S.upd b Y).dom=(S.upd b X).dom:=by
  funext k;simp only[St.dom,St.upd];by_cases e:k=b<;>simp[e]
 refine⟨⟨?_,h.gl,fun k Z a=>?_⟩,l⟩
 .have c:=h.z;simp only[St.upd]at c ⊢;by_cases e:0=b
  .rw[aj e]at c;cases c
  .rw[ah e]at c ⊢;exact c
 rw[l];simp only[St.upd]at a;by_cases e:k=b
 .rw[aj e]at a
  cases a
  obtain⟨cs,p,q,r,s⟩:=h k X (by simp[St.upd,e])
  refine⟨cs,by rw[m];exact p,by rw[f,i];exact q,fun j d=>?_,s⟩
  rw[i]at d;obtain⟨u,t,v⟩:=r j d;rw[f,o j d];exact⟨u,t,v⟩
 .rw[ah e]at a;exact h k Z (by simp[St.upd,e,a])
def Ah(h:j<n)(x d:AV):(cp n x).getD j d=x:=by simp[df,h]
def o9(t:TW)(S:St)(K:AV->St->Prop):Prop:=match fZ t with
 | some (es,x,_)=>∀b,S b=ae->K (.ptr es b 0) (S.upd b ⟨t,es,1,fun _=>x⟩)
 | ae=>(match t with
  | 167=>∀b,S b=ae->K (.ptr 2 b 0) (S.upd b ⟨167,2,2,fun _=>.big 0⟩)
  | 197=>∀b,S b=ae->K (.ptr 2 b 0) (S.upd b ⟨197,2,7,fun _=>.big 0⟩)
  | 218=>∀b,S b=ae->K (.ptr 1 b 0) (S.upd b ⟨218,1,2,fun j=>if j=0 then .nil else .int Uc 0⟩)
  | 202=>∀b,S b=ae->K (.ptr 1 b 0) (S.upd b ⟨202,1,2,fun _=>.int Uj 0⟩)
  | _=>False)
def Ca(a:ak.info? t=ho i)(b:i.zero=ho z)(w:TO) :
  (UK t TN (UB #[])).run ak w=.ok (Uk (ho ⟨w.heap.size,0,ae⟩)) (w.alloc (TP z.cells t)):=by
 simp[UK,Uv,Uw,a,b,newVar,Wn]
def oh(a:eF w S){t es:Nat}(l:List AV)(vs:List TM){i:TypeInfo}{z:TM}(c:ak.info? t=ho i)(d:i.zero=ho z)(e:z.cells=(vs.flatMap (fun u=>u.cells.toList)).toArray)
  (f:bB w S.dom l vs) (h:∀y∈l,dY es y) (Y:eA) (k:Y.ty=t) (m:Y.es=es) (o:Y.n=l.length) (p:∀j,j<l.length->Y.g j=l.getD j .any) {K:AV->St->Prop} (q:∀b,S b=ae->K (.ptr es b 0) (S.upd b Y)) :
  Ek (UK t TN (UB #[])) w S K:=by
 obtain⟨r,s,v,_⟩:=lX a t l vs f h;obtain⟨x,A⟩:=eF.reg s (Y:=Y) k m o p;refine⟨_,Uk (ho ⟨w.heap.size,0,ae⟩),_,_,q _ r,by simp[bI],x,by rw[A];exact v,?_⟩
 rw[Ca c d,e]
def D8{K:AV->St->Prop}(h:o9 t S K){w:TO}(g:eF w S):Ek (UK t TN (UB #[])) w S K:=by
 have key:∀(z':TM) (s b:Nat),ml ak t=ho (z',s,b)->∃i,ak.info? t=ho i/\i.zero=ho z':=by
  intro z' s b f;unfold ml at f
  cases l:ak.info? t with
  | none=>rw[l]at f;simp at f
  | some i =>
   rw[l]at f;simp only[dS,eY,jV]at f;obtain⟨z2,d,e,m,n⟩:=f;exact⟨i,rfl,by rw[d,e]⟩
 unfold o9 at h
 cases k:fZ t with
 | some p =>
  obtain⟨es,x,z⟩:=p;rw[k]at h;obtain⟨i,d,e,m,n,r,u,o,q⟩:=pn k;exact oh g [x] [z] d e sm (by simp only[bB];exact⟨q _ _,trivial⟩) (fun y a=>by simp at a;subst a;exact o) ⟨t,es,1,fun _=>x⟩ rfl rfl rfl (fun j c=>by simp at c;subst c;rfl) h
 | none =>
  rw[k]at h;have zb:∀M,bI w M (.big 0) (Uf #[TR TJ,TK ae 0 0]):=fun M=>by simp only[bI];exact eC.zero w
  simp only at h;split at h
  .obtain⟨i,d,e⟩:=key (Uf #[TR TJ,TK ae 0 0,TR TJ,TK ae 0 0]) 4 64 kr
   exact oh g (cp 2 (.big 0)) (cp 2 (Uf #[TR TJ,TK ae 0 0])) d e rfl (kv (zb _) 2) (fun y a=>by rw[iK a];simp[dY]) ⟨167,2,2,fun _=>.big 0⟩ rfl rfl rfl
    (fun j c=>(Ah (by rw[ow]at c;exact c) _ _).symm) h
  .obtain⟨i,d,e⟩:=key (Uf (cp 7 [TR TJ,TK ae 0 0]).flatten.toArray) 14 224 kr
   exact oh g (cp 7 (.big 0)) (cp 7 (Uf #[TR TJ,TK ae 0 0])) d e rfl (kv (zb _) 7) (fun y a=>by rw[iK a];simp[dY]) ⟨197,2,7,fun _=>.big 0⟩ rfl rfl rfl
    (fun j c=>(Ah (by rw[ow]at c;exact c) _ _).symm) h
  .obtain⟨i,d,e⟩:=key (Uf #[TK ae 0 0,TQ Uc 0]) 2 32 kr
   exact oh g [.nil,.int Uc 0] [TK ae 0 0,TQ Uc 0] d e rfl (by simp[bB,bI]) (fun y a=>by simp at a;rcases a with rfl|rfl<;>simp[dY]) ⟨218,1,2,fun j=>if j=0 then .nil else .int Uc 0⟩ rfl rfl rfl
    (fun j c=>by match j with
     | 0=>rfl
     | 1=>rfl
     | j+2=>exact absurd c (by simp only[cL,iu];omega)) h
  .obtain⟨i,d,e⟩:=key (Uf #[TQ Uj 0,TQ Uj 0]) 2 16 kr
   exact oh g [.int Uj 0,.int Uj 0] [TQ Uj 0,TQ Uj 0] d e rfl (by simp[bB,bI]) (fun y a=>by simp at a;subst a;simp[dY]) ⟨202,1,2,fun _=>.int Uj 0⟩ rfl rfl rfl
    (fun j c=>by match j with
     | 0=>rfl
     | 1=>rfl
     | j+2=>exact absurd c (by simp only[cL,iu];omega)) h
  .exact h.elim

def kI(t:TW)(x:AV)(S:St)(K:AV->St->Prop):Prop:=match fI t with
 | some (es,k)=>if k=1 then dY es x/\∀b,S b=ae->K (.ptr es b 0) (S.upd b ⟨t,es,1,fun _=>x⟩)else(match x with
  | .agg l=>l.length=k/\(∀z∈l,dY es z)/\∀b,S b=ae->K (.ptr es b 0) (S.upd b ⟨t,es,k,fun j=>l.getD j .any⟩)
  | _=>False)
 | ae=>False
def IK(t:TW)(v:TM)(w:TO):(Vt t v).run ak w=.ok (Uk (ho ⟨w.heap.size,0,ae⟩)) (w.alloc (TP v.cells t)):=by
 simp[Vt,newVar,Wn]
def H6{t:TW}{x:AV}{S:St}{K:AV->St->Prop}(h:kI t x S K){w:TO}(g:eF w S){v:TM}(d:bI w S.dom x v):Ek (Vt t v) w S K:=by
 unfold kI at h
 cases i:fI t with
 | none=>rw[i]at h;exact h.elim
 | some p =>
  obtain⟨es,k⟩:=p;rw[i]at h;simp only at h;by_cases a:k=1
  .rw[aj a]at h;obtain⟨e,b,c,_⟩:=lX g t [x] [v] (by simp only[bB];exact⟨d,trivial⟩) (fun z m=>by simp at m;subst m;exact h.1)
   obtain⟨o,q⟩:=eF.reg b (Y:=⟨t,es,1,fun _=>x⟩) rfl rfl rfl (fun j n=>by simp at n;subst n;rfl)
   refine⟨_,Uk (ho ⟨w.heap.size,0,ae⟩),_,_,h.2 _ e,by simp[bI],o,by rw[q];exact c,?_⟩
   rw[IK];simp
  .rw[ah a]at h
   cases x with
   | agg l =>
    simp only at h;obtain⟨r,f,s⟩:=h;simp only[bI]at d;obtain⟨vs,rfl,u⟩:=d;obtain⟨e,b,c,_⟩:=lX g t l vs u f;rw[r]at b c;exact⟨_,Uk (ho ⟨w.heap.size,0,ae⟩),_,_,s _ e,by simp[bI],b,c,IK ..⟩
   | _=>exact h.elim
def dQ:TW->Option TypeId
 | 22=>ho 41
 | 28=>ho 29
 | 29=>ho 2
 | 52=>ho 59
 | 59=>ho 50
 | 146=>ho 3
 | 192=>ho 52
 | 216=>ho 59
 | _=>ae
def cg:TW->Nat
 | 50=>2
 | _=>1
def eChk(P:Vb)(t:TW):Option (TW×Nat):=(P.underlying t).bind fun
 | .slice e=>(P.info? e).map fun i=>(e,i.size)
 | _=>ae
def jx{e:TW}(h:dQ t=ho e):ak.underlying t=ho (.slice e)/\∃i,ak.info? e=ho i/\i.size=cg e:=by
 have key:∀s,eChk ak t=ho (e,s)->ak.underlying t=ho (.slice e)/\∃i,ak.info? e=ho i/\i.size=s:=by
  intro s a;unfold eChk at a
  cases b:ak.underlying t with
  | none=>rw[b]at a;simp at a
  | some d =>
   rw[b]at a
   cases d<;>simp only[dS,eY,jV,reduceCtorEq]at a
   obtain⟨i,c,rfl,f⟩:=a;exact⟨rfl,i,c,f⟩
 unfold dQ at h;split at h<;>first
  | (cases h;exact key _ kr)
  | cases h
def tv(t:TW)(x i:AV)(K:AV->Prop):Prop:=match dQ t,x,i with
 | some e,.sl es b off len,.int _ n=>es=cg e/\(0<=n/\n<(len:Int))/\K (.ptr es b (off+n.toNat))
 | some e,.lst es len g,.int _ n=>es=cg e/\(0<=n/\n<(len:Int))/\K (.pat es (g n.toNat))
 | ae,.ptr es b k,.int _ n=>(es=2/\t=195)/\(0<=n/\n<2)/\K (.ptr 2 b (k+n.toNat))
 | _,_,_=>False
def xM{e:TW}(a:dQ t=ho e)(w:TO)(b off len cap:Nat)(k:UJ)(n:Int)(c:0<=n)(d:n<(len:Int)) :
  (UI t (TK (ho ⟨b,off,ae⟩) len cap) (TQ k n)).run ak w=.ok (Uk (ho ⟨b,off+n.toNat*cg e,ae⟩)) w:=by
 obtain⟨f,i,g,h⟩:=jx a;have j:0<=n/\n<(len:Int):=⟨c,d⟩;simp[UI,Va,bM f,de g,h,iU,j]
def uX(h:tv t x y K){w:TO}{M:Nat->Prop}{vx vy:TM}(a:bI w M x vx)(d:bI w M y vy) :
  ∃z v,K z/\bI w M z v/\(UI t vx vy).run ak w=.ok v w:=by
 unfold tv at h;split at h
 .rename_i e es b off len k n m;obtain⟨rfl,⟨f,j⟩,l⟩:=h;simp only[bI]at a d;obtain⟨cap,cs,ty,fr,rfl,_,_,_⟩:=a;subst d;refine⟨_,_,l,?_,xM m w b _ len cap k n f j⟩;simp only[bI];rw[bV,aA (cg e) n.toNat]
 .rename_i e es len g k n m;obtain⟨rfl,⟨f,j⟩,l⟩:=h;simp only[bI]at a d;obtain⟨A,c,rfl,p,s⟩:=a;subst d;obtain⟨b,off,rfl,o,B,C⟩:=s om;obtain⟨u,q,r⟩:=C n.toNat om;refine⟨_,_,l,?_,xM m w b _ len c k n f j⟩;simp only[bI];exact⟨b,_,u,by rw[aA],o,B,by rw[aA];rw[aA]at q;exact q,r⟩
 .rename_i es b k kk n m;obtain⟨⟨rfl,rfl⟩,⟨f,j⟩,l⟩:=h;simp only[bI]at a d;subst a d;obtain⟨r,i,D,E⟩:=jx (t:=59) (e:=50) rfl;refine⟨_,Uk (ho ⟨b,2*k+n.toNat*2,ae⟩),l,?_,?_⟩
  .simp only[bI];rw[bV,aA n.toNat]
  .have p:0<=n/\n<2:=⟨f,j⟩;simp[UI,Uy,Va,bM ye,de D,E,iU,p,cg]
 .exact h.elim
def lR(t:TW)(x y:AV)(S:St)(K:AV->St->Prop):Prop:=match dQ t,x with
 | some e,.int _ n=>(match fZ e with
  | some (es,z,_)=>x=y/\es=cg e/\(0<=n/\n<=1099511627776)/\∀b,S b=ae->K (.sl es b 0 n.toNat) (S.upd b ⟨e,es,n.toNat,fun _=>z⟩)
  | ae=>False)
 | _,_=>False
def mW(z:TM)(n:Nat):madeCells z.cells (n*z.cells.size)=((cp n z).flatMap (fun u=>u.cells.toList)).toArray:=by
 apply qY;intro i;simp only[madeCells,Tb,fz]
 induction n generalizing i with
 | zero=>simp
 | succ n ih =>
  simp only[kc,ei];by_cases h:i<z.cells.size
  .rw[fQ (by simpa using h)]
   have a:i<(n+1)*z.cells.size:=by rw[cj];omega
   simp[a,dT h,h]
  .rw[fF (by simp;omega)]
   have:=ih (i-z.cells.size);simp only[SS];rw[<-this];by_cases a:i<(n+1)*z.cells.size
   .have b:i-z.cells.size<n*z.cells.size:=by rw[cj]at a;omega
    have c:i%z.cells.size=(i-z.cells.size)%z.cells.size:=by
     rw[Nat.mod_eq_sub_mod om]
    simp[a,b,c]
   .have b:¬i-z.cells.size<n*z.cells.size:=by rw[cj]at a;omega
    simp[a,b]
def FO{K:AV->St->Prop}(h:lR t x y S K){w:TO}(s:eF w S){vx vy:TM}(d:bI w S.dom x vx)(b:bI w S.dom y vy):Ek (Instr.makeSlice t vx vy) w S K:=by
 unfold lR at h;split at h
 .rename_i e k n u
  cases c:fZ e with
  | none=>rw[c]at h;exact h.elim
  | some p =>
   obtain⟨es,z,zv⟩:=p;rw[c]at h;obtain⟨rfl,rfl,⟨f,M⟩,v⟩:=h;obtain⟨A,i,g,B⟩:=jx u;obtain⟨i',l,C,D,N,O,E,F,G⟩:=pn c;rw[g]at l;cases l;simp only[bI]at d b;subst d b;have H:(i.bytes:Int)*n<=281474976710656:=by
    have Q:(i.bytes:Int)*n<=32*n:=bK om f;omega
   have a:=run_make (P:=ak) w t e i zv A g C k k n n f (mV _) H om;obtain⟨I,m,o,q⟩:=lX s e (cp n.toNat z) (cp n.toNat zv) (kv (G _ _) _) (fun y b=>by rw[iK b];exact F)
   rw[ow]at m o q;obtain⟨J,L⟩:=eF.reg m (Y:=⟨e,cg e,n.toNat,fun _=>z⟩) rfl rfl rfl (fun j r=>by simp only at r;simp[df,r])
   rw[D,<-E,mW zv n.toNat]at a;refine⟨_,_,_,_,v _ I,?_,J,by rw[L];exact o,a⟩
   simp only[bI];refine⟨n.toNat,_,e,(0,0),by rw[dO],ag _,jB w _,?_⟩
   simp only[ct];rw[q];simp
 .exact h.elim
def gD:TW->Nat->Option (Nat×Nat)
 | 24,0=>ho (1,0)|24,1=>ho (1,1)|24,2=>ho (1,2)|24,3=>ho (1,3)
 | 27,0=>ho (1,0)|27,1=>ho (1,4)|27,2=>ho (1,5)
 | 107,0=>ho (1,0)|107,1=>ho (1,1)
 | 160,0=>ho (1,0)|160,1=>ho (1,1)|160,2=>ho (1,2)|160,3=>ho (1,3)
 | 167,0=>ho (2,0)|167,1=>ho (2,1)
 | 183,0=>ho (1,0)|183,1=>ho (1,1)
 | 197,0=>ho (2,0)|197,1=>ho (2,1)|197,2=>ho (2,2)|197,3=>ho (2,3)|197,4=>ho (2,5)
 | 218,0=>ho (1,0)|218,1=>ho (1,1)
 | _,_=>ae
def Kf(P:Vb)(t f:Nat):Option (Nat×Bool):=(P.underlying t).bind fun
 | .struct fs=>(fs[f]?).bind fun fl=>(P.info? fl.type).map fun i=>(fl.offset,i.size==0)
 | _=>ae
def Ke{t:Nat}(h:gD t f=ho (es,k)):Kf ak t f=ho (es*k,TJ):=by
 unfold gD at h;split at h<;>first
  | (cases h;kernel_rfl)
  | cases h
def Mv:Kf ak 50 0=ho (0,TJ):=by kernel_rfl
def Mu:Kf ak 50 1=ho (1,TJ):=by kernel_rfl
def tw(t:TW)(x:AV)(f:Nat)(K:AV->Prop):Prop:=match gD t f,x with
 | some (es',k),.ptr es b i=>es'=es/\K (.ptr es b (i+k))
 | ae,.ptr es b i=>(es=2/\t=50/\f<2)/\K (.fp b i f)
 | _,_=>False
def uY(h:tw t x f K){w:TO}{M:Nat->Prop}{vx:TM}(g:bI w M x vx) :
  ∃z v,K z/\bI w M z v/\(Instr.fieldAt t vx f).run ak w=.ok v w:=by
 unfold tw at h;split at h
 .rename_i es' k es b i o;obtain⟨rfl,j⟩:=h;simp only[bI]at g;subst g;have a:=Ke o;unfold Kf at a
  cases e:ak.underlying t with
  | none=>rw[e]at a;simp at a
  | some d =>
   rw[e]at a
   cases d<;>simp only[dS,reduceCtorEq]at a
   rename_i fs
   cases c:fs[f]? with
   | none=>rw[c]at a;simp at a
   | some fl =>
    rw[c]at a;simp only[dS,eY,jV,fW]at a;obtain⟨ii,l,m,n⟩:=a;refine⟨_,Uk (ho ⟨b,es'*i+es'*k,ae⟩),j,by simp[bI,bV],?_⟩
    simp[Instr.fieldAt,bM e,c,Uy,fieldPlace,de l,n,iU,m]
 .rename_i es b i o;obtain⟨⟨rfl,rfl,p⟩,j⟩:=h;simp only[bI]at g;subst g;have a:Kf ak 50 f=ho (f,TJ):=by
   have q:f=0∨f=1:=om
   rcases q with rfl|rfl
   .exact Mv
   .exact Mu
  unfold Kf at a
  cases e:ak.underlying 50 with
  | none=>rw[e]at a;simp at a
  | some d =>
   rw[e]at a
   cases d<;>simp only[dS,reduceCtorEq]at a
   rename_i fs
   cases c:fs[f]? with
   | none=>rw[c]at a;simp at a
   | some fl =>
    rw[c]at a;simp only[dS,eY,jV,fW]at a;obtain⟨ii,l,m,n⟩:=a;refine⟨_,Uk (ho ⟨b,2*i+f,ae⟩),j,by simp[bI],?_⟩
    simp[Instr.fieldAt,bM e,c,Uy,fieldPlace,de l,n,iU,m]
 .exact h.elim

def DF(S:St):AV->Option (Nat×Nat×(Nat->AV)×Option Nat)
 | .sl es b off len=>(S b).bind fun X=>if X.es=es/\off+len<=X.n then ho (es,len,fun j=>X.g (off+j),ho b)else ae
 | .lst es n g=>ho (es,n,g,ae)
 | _=>ae
theorem xJ(g:Nat->AV)(o:Nat):∀k i,ed (fun j=>g (o+j)) i k=ed g (o+i) k
 | 0,_=>rfl
 | k+1,i=>by simp only[ed];rw[xJ g o k (i+1)];rfl
theorem ky(g:Nat->AV):∀k i,(ed g i k).length=k
 | 0,_=>rfl
 | k+1,i=>by simp[ed,ky g k]
theorem sX(g:Nat->AV):∀k i j,j<k->(ed g i k).getD j .any=g (i+j)
 | 0,_,_,h=>om
 | k+1,i,0,_=>by simp[ed]
 | k+1,i,j+1,h=>by
  have:=sX g k (i+1) j om;simp only[ed,bJ];rw[this];congr 1;omega
theorem px(g:Nat->AV):∀k i z,z∈ed g i k->∃j,j<k/\z=g (i+j)
 | 0,_,_,h=>by simp[ed]at h
 | k+1,i,z,h=>by
  simp only[ed,BH]at h;rcases h with rfl|h
  .exact⟨0,om,rfl⟩
  .obtain⟨j,b,a⟩:=px g k (i+1) z h;exact⟨j+1,om,by rw[a];congr 1;omega⟩
theorem xN{w:TO}{M:Nat->Prop}{b off es:Nat}{g:Nat->AV}{n:Nat}(c:∀j,j<n->∃u,wy w b (off+es*j) es u/\bI w M (g j) u) :
  ∀(k i:Nat),i+k<=n->∃vs:List TM,bB w M (ed g i k) vs/\(vs.flatMap (fun u=>u.cells.toList)).length=es*k/\∀j,j<es*k->w.cell? ⟨b,off+es*i+j,ae⟩=(vs.flatMap (fun u=>u.cells.toList))[j]?
 | 0,i,_=>⟨[],by simp[ed,bB],sm,fun j c=>by simp at c⟩
 | k+1,i,q=>by
  obtain⟨u,⟨cs,ty,fr,h,d⟩,l⟩:=c i om;obtain⟨vs,f,m,o⟩:=xN c k (i+1) om;have a:u.cells.toList.length=es/\∀j,j<es->w.cell? ⟨b,off+es*i+j,ae⟩=u.cells.toList[j]?:=by
   match es,d with
   | 1,d =>
    simp only[reads]at d;rw[sc d.2];exact⟨rfl,fun j c=>by
     obtain rfl:j=0:=om
     rw[oL h];simpa using d.1⟩
   | 2,d =>
    simp only[reads]at d;obtain⟨x,y,rfl,_,_,p,f⟩:=d;refine⟨rfl,fun j c=>?_⟩;rw[oL h]
    match j with
    | 0=>simpa [TV]using p
    | 1=>simpa [TV]using f
    | j+2=>omega
  refine⟨u::vs,by simp only[ed,bB];exact⟨l,f⟩,by simp only[ei,CH,a.1,m];rw[eG];omega,fun j c=>?_⟩
  simp only[ei];by_cases e:j<es
  .rw[fQ (by rw[a.1];exact e)];exact a.2 j e
  .rw[fF (by rw[a.1];omega),a.1,<-o (j-es) (by rw[eG]at c;omega)]
   congr 2;rw[eG];omega
def Cl(r:eF w S){x:AV}{v:TM}(e:bI w S.dom x v){es m:Nat}{h:Nat->AV}{o:Option Nat}(a:DF S x=ho (es,m,h,o))(s:0<m) :
  ∃b off c vs,v=TK (ho ⟨b,off,ae⟩) m c/\bB w S.dom (ed h 0 m) vs/\(vs.flatMap (fun u=>u.cells.toList)).length=es*m/\∀j,j<es*m->w.cell? ⟨b,off+j,ae⟩=(vs.flatMap (fun u=>u.cells.toList))[j]?:=by
 cases x with
 | sl es' b off len =>
  simp only[DF]at a
  cases k:S b with
  | none=>rw[k]at a;simp at a
  | some X =>
   rw[k]at a;simp only[dS]at a;split at a
   .rename_i l;simp only[fY,jV]at a;obtain⟨rfl,rfl,rfl,_⟩:=a;simp only[bI]at e;obtain⟨cap,cs',ty',fr',rfl,_,_,_⟩:=e;obtain⟨cs,p,t,d,_⟩:=r b X k;obtain⟨vs,q,f,i⟩:=nY d len off l.2;rw[l.1]at f i;refine⟨b,es'*off,cap,vs,rfl,by rw[xJ,cB];exact q,f,fun j d=>?_⟩
    rw[oL p];exact i j d
   .cases a
 | lst es' n g =>
  simp only[DF,fY,jV]at a;obtain⟨rfl,rfl,rfl,_⟩:=a;simp only[bI]at e;obtain⟨A,c,rfl,l,p⟩:=e;obtain⟨b,off,rfl,_,_,d⟩:=p s;obtain⟨vs,q,f,i⟩:=xN d n 0 om;exact⟨b,off,c,vs,rfl,q,f,fun j d=>by have:=i j d;simpa using this⟩
 | _=>simp[DF]at a
def pN(g:Nat->AV)(len m:Nat)(h:Nat->AV):Nat->AV:=if m=1 then aL g len (h 0)else fun j=>if j<len then g j else h (j-len)
def DZ(a:j<len):pN g len m h j=g j:=by
 unfold pN;split
 .simp only[aL];rw[ah om]
 .simp only;rw[aj a]
def yT(a:len<=j)(b:j<len+m):pN g len m h j=h (j-len):=by
 unfold pN;split
 .simp only[aL];rw[aj om];congr 1;omega
 .simp only;rw[ah om]
def St.del(S:St)(b:Nat):St:=fun k=>if k=b then ae else S k
def gE(t t':TW)(s x:AV)(S:St)(K:AV->St->Prop):Prop:=match dQ t with
 | some e=>t=t'/\(fZ e).isSome=TN/\(match DF S x with
  | some (es,m,h,o)=>es=cg e/\0<m/\(∀j,j<m->dY es (h j))/\(match s with
   | .nil=>m<=1048576/\∀b,S b=ae->K (.sl es b 0 m) (S.upd b ⟨e,es,m,h⟩)
   | .sl es' b off len=>(match S b with
    | some X=>es'=es/\off=0/\X.ty=e/\X.es=es/\X.n=len/\len+m<=1048576/\o≠ho b /\
     ∀b',(b'=b∨S b'=ae)->K (.sl es b' 0 (len+m)) ((S.del b).upd b' ⟨e,es,len+m,pN X.g len m h⟩)
    | ae=>False)
   | _=>False)
  | ae=>False)
 | ae=>False
def oV(h:dY es x)(d:bI w M x z)(n k:Nat)(y:TM)(b:(TS z.cells n)[k]? = ho y):lQ y:=by
 obtain⟨g,e,_⟩:=rW h d;simp only[TS,Tb,eY]at b;obtain⟨i,c,rfl⟩:=b;by_cases f:z.cells.size=0
 .rw[f]at c;simp at c
 .have a:i%z.cells.size<z.cells.size:=di _ om;rw[getElem!_pos z.cells _ a];exact(e _ sm).2
def dA.drew(M:Nat->Prop)(w:TO):dA M M w w.drew:=⟨rfl,rfl,rfl,ag _,fun _ _ _=>rfl,fun _ cs _ _ h=>⟨cs,h,rfl⟩,fun _ _ h=>h⟩
def eF.drew(h:eF w S):eF w.drew S:=⟨h.z,h.grow (dA.drew _ w),fun b X a=>by
 obtain⟨cs,c,d,e,f⟩:=h b X a;exact⟨cs,c,d,fun j g=>by obtain⟨u,i,k⟩:=e j g;exact⟨u,i,bI.grow h.noU (dA.drew _ w) _ _ k⟩,f⟩⟩
def eF.less(h:eF w S)(a:∀b X,S' b=ho X->S b=ho X):eF w S'/\∀k,S'.dom k->S.dom k:=by
 have c:∀k,S'.dom k->S.dom k:=fun k d=>by
  simp only[St.dom]at d ⊢
  cases e:S' k with
  | none=>exact absurd e d
  | some X=>rw[a k X e];simp
 have f:dA S.dom S'.dom w w:=(dA.refl S.dom w).weaken c;refine⟨⟨?_,h.gl,fun b X g=>?_⟩,c⟩
 .cases e:S' 0 with
  | none=>rfl
  | some X=>have:=a 0 X e;rw[h.z]at this;cases this
 obtain⟨cs,i,l,m,n⟩:=h b X (a b X g);exact⟨cs,i,l,fun j o=>by obtain⟨u,p,q⟩:=m j o;exact⟨u,p,bI.grow h.noU f _ _ q⟩,n⟩
def Fy(S:St)(b:Nat):∀k X,S.del b k=ho X->S k=ho X:=by
 intro k X h;simp only[St.del]at h;split at h
 .cases h
 .exact h

def zf{e:TW}(h:(fZ e).isSome=TN):∃x z,fZ e=ho (cg e,x,z):=by
 unfold fZ at h ⊢;split at h<;>first|exact⟨_,_,rfl⟩|cases h
def Iw(S:St)(b:Nat)(X:eA):(S.del b).upd b X=S.upd b X:=by
 funext k;simp only[St.del,St.upd];split<;>rfl
def nQ(z:Array TM)(n:Nat):(TS z n).size=n*z.size:=by simp[TS]
def lH{cs:Array TM}
  (a:∀j,j<len->∃u,reads cs (es*j) es u/\bI w M (g j) u) (i:bB w M (ed h 0 m) vs) (d:∀j,j<m->dY es (h j))
  (b:∀q,q<es*m->cs[es*len+q]? = (vs.flatMap (fun u=>u.cells.toList))[q]?) :
  ∀j,j<len+m->∃u,reads cs (es*j) es u/\bI w M (pN g len m h j) u:=by
 intro j l;by_cases c:j<len
 .rw[DZ c];exact a j c
 .rw[yT om l];obtain⟨_,_,_,n⟩:=iR (es:=es) (ed h 0 m) vs i (fun z o=>by
   obtain⟨k,p,rfl⟩:=px h m 0 z o;rw[aM];exact d k p)
  obtain⟨u,e,r⟩:=n (j-len) (by rw[ky];omega)
  rw[sX _ _ _ _ om,aM]at e;refine⟨u,?_,e⟩;have:=r cs (es*len) (fun q f=>b q (by rw[ky]at f;exact f))
  rw[<-bV,(om:len+(j-len)=j)]at this
  exact this
def Bz{K:AV->St->Prop}(h:gE t t' s x S K){w:TO}(J:eF w S){vs vx:TM}(E:bI w S.dom s vs)(hx:bI w S.dom x vx) :
  Ek (Uo #[t,t'] ty #[vs,vx]) w S K:=by
 unfold gE at h
 cases he:dQ t with
 | none=>rw[he]at h;exact h.elim
 | some e =>
  rw[he]at h;obtain⟨rfl,hze,h⟩:=h;obtain⟨zx,zv,hz⟩:=zf hze;obtain⟨Z,i,hi,l⟩:=jx he;obtain⟨i',g1,g2,g3,g4,g5,g6,g7,g8⟩:=pn hz;rw[hi]at g1;cases g1
  cases O:DF S x with
  | none=>rw[O]at h;exact h.elim
  | some p =>
   obtain⟨es,m,f,o⟩:=p;rw[O]at h;obtain⟨rfl,hm,F,h⟩:=h;obtain⟨xb,xo,xc,us,rfl,u1,L,u3⟩:=Cl J hx O hm;obtain⟨_,_,l3,_⟩:=iR (es:=cg e) (ed f 0 m) us u1 (fun z hz=>by
    obtain⟨k,hk,rfl⟩:=px f m 0 z hz;rw[aM];exact F k hk)
   generalize Q:us.flatMap (fun u=>u.cells.toList)=fl at *;have r:fl.length=m*i.size:=by rw[L,l,aA]
   have hnews:∀j v,fl[j]? = ho v->w.cell? ((⟨xb,xo,ae⟩:Ve).add j)=ho v:=fun j v A=>by
    rw[iU,u3 j (by rw[<-L];exact(eX.1 A).1)];exact A
   have R:∀(k:Nat) (y:TM),fl[k]? = ho y->lQ y:=fun k y d=>(l3 y (gM d)).2;have hmb:m*i.bytes<=32*m:=by rw[aA];exact aq _ g4
   cases s with
   | nil =>
    simp only at h;obtain⟨hm2,hK⟩:=h;simp only[bI]at E;subst E;have a:=run_append_nil (P:=ak) w t ty e i zv Z hi g2 ⟨xb,xo,ae⟩ m xc fl r hnews hm om om;have c:=Tc w m 0 e;generalize We w m 0 e=cap at a c;have hsize:(fl.toArray++TS zv.cells (cap-m)).size=cg e*cap:=by
     rw[ic,nQ,ct,L,g6,aA (cap-m),<-bV,(om:m+(cap-m)=cap)]
    have B:=lH (w:=w.drew) (M:=S.dom) (es:=cg e) (len:=0) (m:=m) (g:=f) (h:=f) (cs:=fl.toArray++TS zv.cells (cap-m)) (vs:=us) (fun j A=>om) (bB.grow J.noU (dA.drew _ w) _ _ u1) F (fun q G=>by
     rw[dO,aM,Q,eL (by rw[ct,L];exact G)];simp)
    obtain⟨n1,n2,n3⟩:=eF.new (w:=w.drew) J.drew (X:=⟨e,cg e,m,f⟩) (cs:=fl.toArray++TS zv.cells (cap-m)) (by rw[hsize];exact aO _ c)
     (fun j A=>by have:=B j (by simpa using A);rw[yT om (by simpa using A)]at this;simpa using this) (fun k y d=>by
      rw[lc]at d;split at d
      .exact R k y (by simpa using d)
      .exact oV g7 (g8 w S.dom) _ _ _ d)
    refine⟨_,_,_,_,hK _ n1,?_,n2,(dA.drew S.dom w).trans n3,a⟩;simp only[bI];exact⟨cap,_,e,(0,0),by rw[dO];rfl,c,jB w.drew _,by rw[hsize,aM];exact ag _⟩
   | sl es' b off len =>
    simp only at h
    cases hX:S b with
    | none=>rw[hX]at h;exact h.elim
    | some X =>
     rw[hX]at h;obtain⟨rfl,rfl,H,hes,hn,hmax,hob,hK⟩:=h;simp only[bI,dO,aM]at E;obtain⟨cap,cs',ty',fr',rfl,hlc,T,C⟩:=E;obtain⟨cs,W,hcsz,A,hcu⟩:=J b X hX;rw[W]at T;simp only[fY,Obj.cells.injEq]at T;obtain⟨rfl,rfl,rfl⟩:=T;rw[hes,hn]at A hcsz;rw[H]at W;by_cases hroom:len+m<=cap
     .have hf:=Dc (P:=ak) w i.size m ⟨xb,xo,ae⟩ m xc fl r hnews;have n:cg e*len+fl.length<=cs.size:=by
       rw[L,<-bV];exact bQ (aO _ hroom) C
      have N:=kg ak (b:=b) (off:=len*i.size) (ty:=e) fl w cs 0 W (by rw[l,cB,aA];exact n) (fun u Z=>(l3 u Z).1)
      rw[cB]at N;have a:(Uo #[t,t] ty #[TK (ho ⟨b,0,ae⟩) len cap,TK (ho ⟨xb,xo,ae⟩) m xc]).run ak w=.ok (TK (ho ⟨b,0,ae⟩) (len+m) cap) (fL w b (eS cs (len*i.size) fl) e):=by
       simp[Uo,bM Z,Wo,Uw,hi,VL,hroom,hf,iU,N]
      have hcsn:∀q,q<cg e*m->(eS cs (len*i.size) fl)[cg e*len+q]? = fl[q]?:=fun q G=>by
       rw[iS _ _ _ _ (by rw[l,aA];exact n),aj (by rw[l,L,aA len];omega)]
       rw[show cg e*len+q-len*i.size=q by rw[l,aA len];omega]
      have B:=lH (w:=w) (M:=S.dom) (es:=cg e) (len:=len) (m:=m) (g:=X.g) (h:=f) (cs:=eS cs (len*i.size) fl) (vs:=us) (fun j D=>by
       obtain⟨u,h5,h6⟩:=A j D;refine⟨u,kO h5 (fun q G=>?_),h6⟩;rw[iS _ _ _ _ (by rw[l,aA];exact n),ah]
       rw[l,aA len];have:cg e*(j+1)<=cg e*len:=aO _ D;rw[eG]at this;omega) u1 F (fun q G=>by rw[Q];exact hcsn q G)
      have U:=eF.write J hX (X':=⟨e,cg e,len+m,pN X.g len m f⟩) (cs:=cs) (cs':=eS cs (len*i.size) fl) (by rw[H];exact W) (iH _ _ _) H.symm (by
        rw[iH];exact bQ (aO _ hroom) C) B (fun k y d=>by
        rw[iS _ _ _ _ (by rw[l,aA];exact n)]at d
        split at d
        .exact R _ y d
        .exact hcu k y d)
      rw[H]at U;have hK':=hK b (a6 rfl);rw[Iw]at hK';refine⟨_,_,_,_,hK',?_,U.1,U.2,a⟩;simp only[bI,dO,aM];exact⟨cap,eS cs (len*i.size) fl,e,(0,0),rfl,hroom,by rw[jF (fN W),aj rfl],by rw[iH];exact C⟩
     .obtain⟨os,o1,I,o3⟩:=nY A len 0 om;generalize hol:os.flatMap (fun u=>u.cells.toList)=ol at *;have hob2:(len+m)*i.bytes<=32*(len+m):=by rw[aA];exact aq _ g4
      have a:=run_append_grow (P:=ak) w t ty e i zv Z hi g2 ⟨b,0,ae⟩ len cap ol (by rw[I,l,aA]) (fun j v hjv=>by
        rw[iU,oL W];have:=o3 j (by rw[<-I];exact(eX.1 hjv).1)
        rw[dO]at this;rw[this];exact hjv) ⟨xb,xo,ae⟩ m xc fl r hnews om om (VC om om)
      have c:=Tc w (len+m) cap e;generalize We w (len+m) cap e=cap2 at a c;have hsize:(ol.toArray++fl.toArray++TS zv.cells (cap2-(len+m))).size=cg e*cap2:=by
       rw[ic,ic,nQ,ct,ct,L,I,g6,aA (cap2-(len+m)),<-bV,<-bV,(om:len+m+(cap2-(len+m))=cap2)]
      have V:∀q,q<cg e*len->(ol.toArray++fl.toArray++TS zv.cells (cap2-(len+m)))[q]? = ol[q]?:=fun q G=>by
       rw[eL (by rw[ic,ct,I];omega),eL (by rw[ct,I];exact G)];simp
      have B:=lH (w:=w.drew) (M:=S.dom) (es:=cg e) (len:=len) (m:=m) (g:=X.g) (h:=f) (cs:=ol.toArray++fl.toArray++TS zv.cells (cap2-(len+m))) (vs:=us) (fun j D=>by
        obtain⟨u,h5,h6⟩:=A j D;refine⟨u,kO h5 (fun q G=>?_),bI.grow J.noU (dA.drew _ w) _ _ h6⟩;have hql:cg e*j+q<cg e*len:=by
         have:cg e*(j+1)<=cg e*len:=aO _ D;rw[eG]at this;omega
        rw[V _ hql,<-o3 _ hql,dO,aM]) (bB.grow J.noU (dA.drew _ w) _ _ u1) F (fun q G=>by
        rw[Q,eL (by rw[ic,ct,ct,I,L];omega),La (by rw[ct,I];omega),ct,I,(om:cg e*len+q-cg e*len=q)];simp)
      have holu:∀(k:Nat) (y:TM),ol[k]? = ho y->lQ y:=fun k y d=>by
       have hk:k<ol.length:=(eX.1 d).1;have:=o3 k (by rw[<-I];exact hk)
       rw[d]at this;exact hcu _ y this
      obtain⟨n1,n2,n3⟩:=eF.new (w:=w.drew) J.drew (X:=⟨e,cg e,len+m,pN X.g len m f⟩) (cs:=ol.toArray++fl.toArray++TS zv.cells (cap2-(len+m))) (by rw[hsize];exact aO _ c) B (fun k y d=>by
        rw[lc]at d;split at d
        .rw[lc]at d;split at d
         .exact holu k y (by simpa using d)
         .exact R _ y (by simpa using d)
        .exact oV g7 (g8 w S.dom) _ _ _ d)
      have hless:=eF.less n2 (S':=(S.del b).upd w.drew.heap.size ⟨e,cg e,len+m,pN X.g len m f⟩) (fun k Y hY=>by
       simp only[St.upd]at hY ⊢;split at hY
       .rename_i e1;rw[aj e1];exact hY
       .rename_i e1;rw[ah e1];exact Fy S b k Y hY)
      refine⟨_,_,_,_,hK _ (aQ n1),?_,hless.1,((dA.drew S.dom w).trans n3).weaken hless.2,a⟩;simp only[bI,dO,aM];exact⟨cap2,_,e,(0,0),rfl,c,jB w.drew _,by rw[hsize];exact ag _⟩
   | _=>exact h.elim

def zg(z:TM)(n:Nat):TS z.cells n=((cp n z).flatMap (fun u=>u.cells.toList)).toArray:=mW z n
theorem sN{w:TO}{M:Nat->Prop}{x:AV}{z:TM}(h:bI w M x z):∀n k,bB w M (ed (fun _=>x) k n) (cp n z)
 | 0,_=>by simp[ed,bB]
 | n+1,k=>by simp only[ed,kc,bB];exact⟨h,sN h n (k+1)⟩
def rM(t:TW)(s x:AV)(S:St)(K:AV->St->Prop):Prop:=match s,x with
 | .sl es b off len,.int _ (.ofNat m)=>(match dQ t,S b with
  | some e,ho X=>(match fZ e with
   | some (es',z,_)=>es'=es/\es=cg e/\off=0/\X.ty=e/\X.es=es/\X.n=len/\1<=m/\len+m<=1048576 /\
    ∀b',(b'=b∨S b'=ae)->K (.sl es b' 0 (len+m)) ((S.del b).upd b' ⟨e,es,len+m,pN X.g len m (fun _=>z)⟩)
   | ae=>False)
  | _,_=>False)
 | _,_=>False
def AP{K:AV->St->Prop}(h:rM t s x S K){w:TO}(N:eF w S){vs vx:TM}(O:bI w S.dom s vs)(hx:bI w S.dom x vx) :
  Ek (Uo #[t,3] ty #[vs,vx]) w S K:=by
 unfold rM at h;split at h
 .rename_i es0 b off len k m
  cases he:dQ t with
  | none=>rw[he]at h;exact h.elim
  | some e =>
  cases hX:S b with
  | none=>rw[he,hX]at h;exact h.elim
  | some X =>
   rw[he,hX]at h;simp only at h
   cases Q:fZ e with
   | none=>rw[Q]at h;exact h.elim
   | some p =>
   obtain⟨es',zx,zv⟩:=p;rw[Q]at h;obtain⟨rfl,rfl,rfl,A,hes,hn,hm,hmax,hK⟩:=h;obtain⟨hu,i,hi,a⟩:=jx he;obtain⟨i',g1,g2,g3,g4,g5,g6,g7,g8⟩:=pn Q;rw[hi]at g1;cases g1;have h3u:=underlying3;simp only[bI]at hx;subst hx;have hx3:Int.ofNat m=(m:Int):=rfl;rw[hx3];have R:m≠0:=om
   have u1:=sN (g8 w S.dom) m 0;generalize hff:(fun _:Nat=>zx)=f at *;have D:∀j,j<m->dY (cg e) (f j):=fun j T=>by rw[<-hff];exact g7
   obtain⟨_,U,l3,_⟩:=iR (es:=cg e) (ed f 0 m) (cp m zv) u1 (fun z Q=>by
    obtain⟨k,hk,rfl⟩:=px f m 0 z Q;rw[aM];exact D k hk)
   have V:=zg zv m;generalize hus:cp m zv=us at *;generalize W:us.flatMap (fun u=>u.cells.toList)=fl at *;rw[ky]at U;have Z:∀(k:Nat) (y:TM),fl[k]? = ho y->lQ y:=fun k y c=>(l3 y (gM c)).2;have hwm:IntKind.i64.wrap (m:Int)=m:=by rw[pU];omega
   have hmb:m*i.bytes<=32*m:=by rw[aA];exact aq _ g4
   have hib:¬(281474976710656<(m:Int)*(i.bytes:Int)):=by rw[<-aV];omega
   have hm0:¬((m:Int)<0):=om
   have hi1:i.size≠0:=by rw[a];unfold cg;split<;>omega
   simp only[bI,dO,aM]at O;obtain⟨cap,cs',ty',fr',rfl,hlc,E,n⟩:=O;obtain⟨cs,L,hcsz,T,hcu⟩:=N b X hX;rw[L]at E;simp only[fY,Obj.cells.injEq]at E;obtain⟨rfl,rfl,rfl⟩:=E;rw[hes,hn]at T hcsz;rw[A]at L;by_cases hroom:len+m<=cap
   .have R:m≠0:=om
    have l:cg e*len+fl.length<=cs.size:=by
     rw[U,<-bV];exact bQ (aO _ hroom) n
    have C:=kg ak (b:=b) (off:=len*i.size) (ty:=e) fl w cs 0 L (by rw[a,cB,aA];exact l) (fun u hu=>(l3 u hu).1)
    rw[cB]at C;have F:(Vl ⟨b,len*i.size,ae⟩ fl).run ak w=.ok () (fL w b (eS cs (len*i.size) fl) e):=C;have d:(Uo #[t,3] ty #[TK (ho ⟨b,0,ae⟩) len cap,TQ k (m:Int)]).run ak w=.ok (TK (ho ⟨b,0,ae⟩) (len+m) cap) (fL w b (eS cs (len*i.size) fl) e):=by
     simp[Uo,bM hu,bM h3u,Wo,Uw,hi,asInt,Va,hwm,hm0,hib,Uv,g2,V,hroom,iU,F];intro h0;exact absurd h0 (Nat.mul_ne_zero R hi1)
    have hcsn:∀q,q<cg e*m->(eS cs (len*i.size) fl)[cg e*len+q]? = fl[q]?:=fun q G=>by
     rw[iS _ _ _ _ (by rw[a,aA];exact l),aj (by rw[a,U,aA len];omega)]
     rw[show cg e*len+q-len*i.size=q by rw[a,aA len];omega]
    have H:=lH (w:=w) (M:=S.dom) (es:=cg e) (len:=len) (m:=m) (g:=X.g) (h:=f) (cs:=eS cs (len*i.size) fl) (vs:=us) (fun j o=>by
     obtain⟨u,h5,h6⟩:=T j o;refine⟨u,kO h5 (fun q G=>?_),h6⟩;rw[iS _ _ _ _ (by rw[a,aA];exact l),ah]
     rw[a,aA len];have:cg e*(j+1)<=cg e*len:=aO _ o;rw[eG]at this;omega) u1 D (fun q G=>by rw[W];exact hcsn q G)
    have I:=eF.write N hX (X':=⟨e,cg e,len+m,pN X.g len m f⟩) (cs:=cs) (cs':=eS cs (len*i.size) fl) (by rw[A];exact L) (iH _ _ _) A.symm (by
      rw[iH];exact bQ (aO _ hroom) n) H (fun k y c=>by
      rw[iS _ _ _ _ (by rw[a,aA];exact l)]at c
      split at c
      .exact Z _ y c
      .exact hcu k y c)
    rw[A]at I;have hK':=hK b (a6 rfl);rw[Iw]at hK';refine⟨_,_,_,_,hK',?_,I.1,I.2,d⟩;simp only[bI,dO,aM];exact⟨cap,eS cs (len*i.size) fl,e,(0,0),rfl,hroom,by rw[jF (fN L),aj rfl],by rw[iH];exact n⟩
   .obtain⟨os,o1,B,o3⟩:=nY T len 0 om;generalize hol:os.flatMap (fun u=>u.cells.toList)=ol at *;have hob2:(len+m)*i.bytes<=32*(len+m):=by rw[aA];exact aq _ g4
    have d:=Lib.run_append_grow_zeros (P:=ak) w t 3 ty e i zv k Uc hu h3u hi g2 (ho ⟨b,0,ae⟩) len cap ol (Dc (P:=ak) w.drew i.size len ⟨b,0,ae⟩ len cap ol (by rw[B,a,aA]) (fun j v hjv=>by
      rw[iU];have hbd:w.drew.heap[b]? = ho (TP cs e (0,0)):=L;rw[oL hbd];have:=o3 j (by rw[<-B];exact(eX.1 hjv).1)
      rw[dO]at this;rw[this];exact hjv)) m om (by rw[a];unfold cg;split<;>omega) om om om (VC om om)
    rw[V]at d;have r:=Tc w (len+m) cap e;generalize We w (len+m) cap e=cap2 at d r;have hsize:(ol.toArray++fl.toArray++TS zv.cells (cap2-(len+m))).size=cg e*cap2:=by
     rw[ic,ic,nQ,ct,ct,U,B,g6,aA (cap2-(len+m)),<-bV,<-bV,(om:len+m+(cap2-(len+m))=cap2)]
    have J:∀q,q<cg e*len->(ol.toArray++fl.toArray++TS zv.cells (cap2-(len+m)))[q]? = ol[q]?:=fun q G=>by
     rw[eL (by rw[ic,ct,B];omega),eL (by rw[ct,B];exact G)];simp
    have H:=lH (w:=w.drew) (M:=S.dom) (es:=cg e) (len:=len) (m:=m) (g:=X.g) (h:=f) (cs:=ol.toArray++fl.toArray++TS zv.cells (cap2-(len+m))) (vs:=us) (fun j o=>by
      obtain⟨u,h5,h6⟩:=T j o;refine⟨u,kO h5 (fun q G=>?_),bI.grow N.noU (dA.drew _ w) _ _ h6⟩;have hql:cg e*j+q<cg e*len:=by
       have:cg e*(j+1)<=cg e*len:=aO _ o;rw[eG]at this;omega
      rw[J _ hql,<-o3 _ hql,dO,aM]) (bB.grow N.noU (dA.drew _ w) _ _ u1) D (fun q G=>by
      rw[W,eL (by rw[ic,ct,ct,B,U];omega),La (by rw[ct,B];omega),ct,B,(om:cg e*len+q-cg e*len=q)];simp)
    have holu:∀(k:Nat) (y:TM),ol[k]? = ho y->lQ y:=fun k y c=>by
     have hk:k<ol.length:=(eX.1 c).1;have:=o3 k (by rw[<-B];exact hk)
     rw[c]at this;exact hcu _ y this
    obtain⟨n1,n2,n3⟩:=eF.new (w:=w.drew) N.drew (X:=⟨e,cg e,len+m,pN X.g len m f⟩) (cs:=ol.toArray++fl.toArray++TS zv.cells (cap2-(len+m))) (by rw[hsize];exact aO _ r) H (fun k y c=>by
      rw[lc]at c;split at c
      .rw[lc]at c;split at c
       .exact holu k y (by simpa using c)
       .exact Z _ y (by simpa using c)
      .exact oV g7 (g8 w S.dom) _ _ _ c)
    have hless:=eF.less n2 (S':=(S.del b).upd w.drew.heap.size ⟨e,cg e,len+m,pN X.g len m f⟩) (fun k Y hY=>by
     simp only[St.upd]at hY ⊢;split at hY
     .rename_i e1;rw[aj e1];exact hY
     .rename_i e1;rw[ah e1];exact Fy S b k Y hY)
    refine⟨_,_,_,_,hK _ (aQ n1),?_,hless.1,((dA.drew S.dom w).trans n3).weaken hless.2,d⟩;simp only[bI,dO,aM];exact⟨cap2,_,e,(0,0),rfl,r,jB w.drew _,by rw[hsize];exact ag _⟩
 .exact h.elim

def yU(len:Nat)(lo hi mx:Option AV)(K:Nat->Nat->Prop):Prop :=
 ∃l h:Nat,(match lo with|ae=>l=0|some (.int _ a)=>a=(l:Int)|_=>False)/\(match hi with|ae=>h=len|some (.int _ a)=>a=(h:Int)|_=>False) /\
  (match mx with|ae=>True|some (.int _ a)=>(h:Int)<=a/\a<=(len:Int)/\hi.isSome=TN|_=>False)/\l<=h/\h<=len/\K l h
def lh(t:TW)(x:AV)(lo hi mx:Option AV)(K:AV->Prop):Prop:=match dQ t,x with
 | some e,.sl es b off len=>es=cg e/\yU len lo hi mx (fun l h=>K (if l=0∨l<h then .sl es b (off+l) (h-l)else .lst es 0 (fun _=>.any)))
 | some e,.lst es n g=>es=cg e/\yU n lo hi mx (fun l h=>K (.lst es (h-l) (fun j=>g (l+j))))
 | some _,.nil=>yU 0 lo hi mx (fun _ _=>K .nil)
 | _,_=>False
def tB(w:TO)(M:Nat->Prop):Option AV->Option TM->Prop
 | ae,ae=>True
 | some x,ho v=>bI w M x v
 | _,_=>False
def sZ{cap:Nat}(B:len<=cap){lo j mx:Option AV}{K:Nat->Nat->Prop}(h:yU len lo j mx K){vl vh vm:Option TM}(b:tB w M lo vl)(f:tB w M j vh)(o:tB w M mx vm) :
  ∃l h m:Nat,K l h/\l<=h/\h<=len/\h<=m/\m<=cap/\(Un TN len cap vl vh vm).run ak w=.ok (l,h,m) w:=by
 obtain⟨l,h,d,e,p,g,q,r⟩:=h;have bnd:∀(a:Int) (k:UJ) (n:Nat) (y:Nat) (c:BoundsCode),a=(n:Int)->n<=y->(Vu (TQ k a) y c).run ak w=.ok n w:=by
  intro a k n y c s t;subst s;have:(0:Int)<=n/\(n:Int)<=(y:Int):=om
  simp[Vu,Va,t]
 cases mx with
 | none =>
  cases vm with
  | some _=>exact o.elim
  | none =>
   refine⟨l,h,cap,r,g,q,om,ag _,?_⟩
   cases j with
   | none =>
    cases vh with
    | some _=>exact f.elim
    | none =>
     simp only at e;subst e
     cases lo with
     | none =>
      cases vl with
      | some _=>exact b.elim
      | none=>simp only at d;subst d;simp[Un]
     | some x =>
      cases vl with
      | none=>exact b.elim
      | some v =>
       cases x<;>simp only at d
       simp only[tB,bI]at b;subst b;simp[Un,bnd _ _ l h _ d g]
   | some y =>
    cases vh with
    | none=>exact f.elim
    | some u =>
     cases y<;>simp only at e
     simp only[tB,bI]at f;subst f
     cases lo with
     | none =>
      cases vl with
      | some _=>exact b.elim
      | none=>simp only at d;subst d;simp[Un,bnd _ _ h cap _ e om]
     | some x =>
      cases vl with
      | none=>exact b.elim
      | some v =>
       cases x<;>simp only at d
       simp only[tB,bI]at b;subst b;simp[Un,bnd _ _ h cap _ e om,bnd _ _ l h _ d g]
 | some z =>
  cases vm with
  | none=>exact o.elim
  | some C =>
   cases z<;>simp only at p
   rename_i km am;simp only[tB,bI]at o;subst o;obtain⟨D,E,A⟩:=p
   cases j with
   | none=>simp at A
   | some y =>
    cases vh with
    | none=>exact f.elim
    | some u =>
     cases y<;>simp only at e
     simp only[tB,bI]at f;subst f;refine⟨l,h,am.toNat,r,g,q,om,om,?_⟩
     have i:=bnd am km am.toNat cap .slice3Acap om om
     cases lo with
     | none =>
      cases vl with
      | some _=>exact b.elim
      | none=>simp only at d;subst d;simp[Un,i,bnd _ _ h am.toNat _ e om]
     | some x =>
      cases vl with
      | none=>exact b.elim
      | some v =>
       cases x<;>simp only at d
       simp only[tB,bI]at b;subst b;simp[Un,i,bnd _ _ h am.toNat _ e om,bnd _ _ l h _ d g]
def uV{lo hi mx:Option AV}(h:lh t x lo hi mx K){w:TO}{M:Nat->Prop}{v:TM}{vl vh vm:Option TM}(k:bI w M x v)(y:tB w M lo vl)(B:tB w M hi vh)(C:tB w M mx vm) :
  ∃z u,K z/\bI w M z u/\(Ux t v vl vh vm).run ak w=.ok u w:=by
 unfold lh at h;split at h
 .rename_i e es b off len o;obtain⟨rfl,D⟩:=h;obtain⟨p,i,c,s⟩:=jx o;simp only[bI]at k;obtain⟨cap,cs,ty,fr,rfl,E,hheap,F⟩:=k;obtain⟨l,h,m,q,J,L,N,O,a⟩:=sZ E D y B C;have d:(Ux t (TK (ho ⟨b,cg e*off,ae⟩) len cap) vl vh vm).run ak w=.ok (TK (if m=l then ho ⟨b,cg e*off,ae⟩else ho ⟨b,cg e*off+l*cg e,ae⟩) (h-l) (m-l)) w:=by
   simp[Ux,bM p,Vx,a,de c,s,iU]
  refine⟨_,_,q,?_,d⟩;by_cases f:l=0∨l<h
  .rw[aj f];simp only[bI];refine⟨m-l,cs,ty,fr,?_,om,hheap,bQ (aO _ om) F⟩
   rcases f with rfl|f
   .simp
   .rw[ah om,bV,aA l]
  .rw[ah f];simp only[bI];exact⟨_,m-l,by rw[(om:h-l=0)],om,fun P=>absurd P om⟩
 .rename_i e es n g o;obtain⟨rfl,D⟩:=h;obtain⟨p,i,c,s⟩:=jx o;simp only[bI]at k;obtain⟨A,cap,rfl,E,G⟩:=k;obtain⟨l,h,m,q,J,L,N,O,a⟩:=sZ E D y B C;have d:(Ux t (TK A n cap) vl vh vm).run ak w=.ok (TK (if m=l then A else A.map (·.add (l*cg e))) (h-l) (m-l)) w:=by
   simp[Ux,bM p,Vx,a,de c,s]
  refine⟨_,_,q,?_,d⟩;simp only[bI];refine⟨_,m-l,rfl,om,fun P=>?_⟩
  obtain⟨b,off,rfl,H,Q,R⟩:=G om;rw[ah om];refine⟨b,off+l*cg e,by simp[iU],H,Q,fun j S=>?_⟩
  obtain⟨u,r,I⟩:=R (l+j) om;refine⟨u,?_,I⟩;rw[bV,aA (cg e) l,<-kS]at r;exact r
 .rename_i e o;obtain⟨p,i,c,s⟩:=jx o;simp only[bI]at k;subst k;obtain⟨l,h',m,q,J,L,N,O,a⟩:=sZ (ag 0) h y B C;obtain rfl:l=0:=om
  obtain rfl:h'=0:=om
  obtain rfl:m=0:=om
  exact⟨_,TK ae 0 0,q,by simp[bI],by simp[Ux,bM p,Vx,a,de c]⟩
 .exact h.elim
def Hz(t:TW)(x:AV)(K:AV->Prop):Prop:=match dQ t,x with
 | some _,.sl _ _ _ len=>K (.int Uc len)
 | some _,.lst _ n _=>K (.int Uc n)
 | some _,.nil=>K (.int Uc 0)
 | ae,.mag n=>t=48/\K (.int Uc (nl n))
 | _,_=>False
def AL(h:Hz t x K){w:TO}{M:Nat->Prop}{v:TM}(a:bI w M x v) :
  ∃z u,K z/\bI w M z u/\(UG #[t] ty #[v]).run ak w=.ok u w:=by
 unfold Hz at h;split at h
 .rename_i e es b off len d;obtain⟨f,_⟩:=jx d;simp only[bI]at a;obtain⟨cap,cs,ty,fr,rfl,_⟩:=a;exact⟨_,TQ Uc len,h,by simp[bI],by simp[UG,bM f,Wz]⟩
 .rename_i e es n g d;obtain⟨f,_⟩:=jx d;simp only[bI]at a;obtain⟨A,c,rfl,_⟩:=a;exact⟨_,TQ Uc n,h,by simp[bI],by simp[UG,bM f,Wz]⟩
 .rename_i e d;obtain⟨f,_⟩:=jx d;simp only[bI]at a;subst a;exact⟨_,TQ Uc 0,h,by simp[bI],by simp[UG,bM f,Wz]⟩
 .rename_i n d;obtain⟨rfl,h⟩:=h;simp only[bI]at a;obtain⟨neg,A,k,c,xs,e,i,j,l,m⟩:=a
  cases e
  have o:k=nl n:=by
   rw[aD j l];congr 1;simp[sg]at m;omega
  rw[<-o]at h;exact⟨_,TQ Uc k,h,by simp[bI],by simp[UG,bM fO,Wz]⟩
 .exact h.elim
def yb(t:TW)(d s:AV)(S:St)(K:AV->St->Prop):Prop:=match dQ t,d with
 | some e,.sl es b off len=>(match S b,DF S s with
  | some X,ho (es',m,h,_)=>es=cg e/\es'=es/\X.es=es/\off+len<=X.n/\m=len/\0<m/\(∀j,j<m->dY es (h j)) /\
   K (.int Uc len) (S.upd b { X with g:=fun j=>if off<=j/\j<off+len then h (j-off)else X.g j })
  | _,_=>False)
 | _,_=>False
def FP{d:AV}{K:AV->St->Prop}(h:yb t d s S K){w:TO}(D:eF w S){vd vs:TM}(E:bI w S.dom d vd)(r:bI w S.dom s vs) :
  Ek (UW #[t,t'] ty #[vd,vs]) w S K:=by
 unfold yb at h;split at h
 .rename_i e es b off len I;obtain⟨J,i,L,x⟩:=jx I;split at h
  .rename_i X es' m f o M y;obtain⟨rfl,rfl,l,N,rfl,O,A,F⟩:=h;obtain⟨xb,xo,xc,us,rfl,Q,G,R⟩:=Cl D r y O;simp only[bI]at E;obtain⟨cap,cs',ty',fr',rfl,_,_,_⟩:=E;have n:∀z∈ed f 0 m,dY X.es z:=fun z T=>by
    obtain⟨k,U,rfl⟩:=px f m 0 z T;rw[aM,l];exact A k U
   obtain⟨cs,V,a,W,B,C⟩:=qZ D M (ed f 0 m) us Q n off (by rw[ky];exact N)
   rw[l]at a B C;generalize hfl:us.flatMap (fun u=>u.cells.toList)=fl at *;have p:fl.length=m*i.size:=by rw[G,x,aA]
   have Y:=Dc (P:=ak) w i.size m ⟨xb,xo,ae⟩ m xc fl p (fun j v H=>by
    rw[iU,R j (by rw[<-G];exact(eX.1 H).1)];exact H)
   have c:=kg ak (b:=b) (off:=cg e*off) (ty:=X.ty) fl w cs 0 V (by rw[cB];exact a) W
   rw[cB]at c;have q:(UW #[t,t'] ty #[TK (ho ⟨b,cg e*off,ae⟩) m cap,TK (ho ⟨xb,xo,ae⟩) m xc]).run ak w=.ok (TQ Uc m) (fL w b (eS cs (cg e*off) fl) X.ty):=by
    simp[UW,bM J,VL,de L,Y,c,Wz]
   have Z:fy X.g off (ed f 0 m)=fun j=>if off<=j/\j<off+m then f (j-off)else X.g j:=by
    funext j;simp only[fy,ky];split
    .rw[sX _ _ _ _ om,aM]
    .rfl
   rw[Z]at B C;rw[l]at F;exact⟨_,TQ Uc m,_,_,F,by simp[bI],B,C,q⟩
  .exact h.elim
 .exact h.elim

theorem uE(off:Nat):∀(l:List TM) (k:Nat) (cs:Array TM),(l.zipIdx k).foldl (fun(cs:Array TM) (p:TM×Nat)=>cs.setIfInBounds (off+p.2) p.1) cs=eS cs (off+k) l
 | [],_,_=>rfl
 | v::l,k,cs=>by
  simp only[List.zipIdx_cons,List.foldl_cons,eS];rw[uE off l (k+1)];rfl
def eD(k:Nat):List AV->List (Nat×AV)
 | []=>[]
 | x::l=>(k,x)::eD (k+1) l
def lU(k:Nat):List TM->List (Nat×TM)
 | []=>[]
 | x::l=>(k,x)::lU (k+1) l
theorem sK:∀(a b:List TM) (cs:Array TM) (o:Nat),eS cs o (a++b)=eS (eS cs o a) (o+a.length) b
 | [],b,cs,o=>by simp[eS]
 | x::a,b,cs,o=>by simp only[oS,eS,cL];rw[sK a b];congr 1;omega
theorem ES{w:TO}{M:Nat->Prop}{es:Nat}:∀(l:List AV) (vs:List TM) (k:Nat) (cs:Array TM),bB w M l vs->(∀z∈l,dY es z)->es*(k+l.length)<=cs.size ->
  Ul (fun i=>ho (i*es,es)) cs (lU k vs)=ho (eS cs (es*k) (vs.flatMap (fun u=>u.cells.toList)))
 | [],[],k,cs,_,_,_=>by simp[lU,Ul,eS]
 | a::l,v::vs,k,cs,b,f,d=>by
  simp only[bB]at b;obtain⟨g,_,_⟩:=rW (f a (fE ..)) b.1;simp only[cL]at d;have n:es*(k+1)<=cs.size:=bQ (aO _ om) d;have m:¬(cs.size<k*es+es):=by rw[eG,aA]at n;omega
  have ih:=ES l vs (k+1) (eS cs (k*es) v.cells.toList) b.2 (fun z o=>f z (eh _ o)) (by rw[iH];rw[(om:k+1+l.length=k+(l.length+1))];exact d)
  have q:v.cells.zipIdx.foldl (fun(cs:Array TM) (p:TM×Nat)=>cs.setIfInBounds (k*es+p.2) p.1) cs=eS cs (k*es) v.cells.toList:=by
   rw[<-Array.foldl_toList,Array.toList_zipIdx,uE];rfl
  simp only[lU,Ul];rw[ah (by simp[g];omega)]
  have e:(v.cells.zipIdx.foldl (fun(cs:Array TM) x=>match x with|(c,j)=>cs.setIfInBounds (k*es+j) c) cs)=eS cs (k*es) v.cells.toList:=q
  rw[e,ih,ei,sK,aA k es];congr 2;rw[SS,g,eG]
 | [],_::_,_,_,h,_,_=>by simp[bB]at h
 | _::_,[],_,_,h,_,_=>by simp[bB]at h
def Da(cs:Array TM)(l:List TM)(h:cs.size=l.length):eS cs 0 l=l.toArray:=by
 apply qY;intro i;rw[iS _ _ _ _ om];split
 .simp
 .rename_i a;rw[eo om,eo (by simp;omega)]
def da(t:TW)(n:Nat)(ps:List (Nat×AV))(S:St)(K:AV->St->Prop):Prop:=match dQ t with
 | some e=>ps=eD 0 (ps.map (·.2))/\ps.length=n/\n<=16/\(fZ e).isSome=TN/\(∀p∈ps,dY (cg e) p.2)/\∀b,S b=ae->K (.sl (cg e) b 0 n) (S.upd b ⟨e,cg e,n,fun j=>(ps.map (·.2)).getD j .any⟩)
 | ae=>False
def qJ(w:TO)(M:Nat->Prop):List (Nat×AV)->List (Nat×TM)->Prop
 | [],[]=>True
 | p::l,q::r=>p.1=q.1/\bI w M p.2 q.2/\qJ w M l r
 | _,_=>False
theorem qI{w:TO}{M:Nat->Prop}:∀(ps:List (Nat×AV)) (qs:List (Nat×TM)),qJ w M ps qs->bB w M (ps.map (·.2)) (qs.map (·.2))/\∀k,ps=eD k (ps.map (·.2))->qs=lU k (qs.map (·.2))
 | [],[],_=>⟨by simp[bB],fun _ _=>rfl⟩
 | p::l,q::r,h=>by
  simp only[qJ]at h;obtain⟨b,c⟩:=qI l r h.2.2;refine⟨by simp only[iJ,bB];exact⟨h.2.1,b⟩,fun k a=>?_⟩
  simp only[iJ,eD,Ts]at a;simp only[iJ,lU,Ts];refine⟨?_,c (k+1) a.2⟩;have:=a.1;obtain⟨d,e⟩:=p;obtain⟨f,g⟩:=q;simp at this h;simp[<-h.1,this]
 | [],_::_,h=>h.elim
 | _::_,[],h=>h.elim
def rE{e:TW}(C:dQ t=ho e)(l:ps=eD 0 (ps.map (·.2)))(c:ps.length=n)(D:n<=16)(m:(fZ e).isSome=TN)(o:∀p∈ps,dY (cg e) p.2){w:TO}(E:eF w S){qs:List (Nat×TM)}(F:qJ w S.dom ps qs) :
  (Uz t n qs.toArray).run ak w=.ok (TK (ho ⟨w.heap.size,0,ae⟩) n n) (w.alloc (TP ((qs.map (·.2)).flatMap (fun u=>u.cells.toList)).toArray e)):=by
 obtain⟨v,i,h,a⟩:=jx C;obtain⟨zx,zv,k⟩:=zf m;obtain⟨i',x,G,L,M,N,O,P,Q⟩:=pn k;rw[h]at x;cases x;obtain⟨y,H⟩:=qI ps qs F;have q:=H 0 l;have d:(ps.map (·.2)).length=n:=by simp[c]
 generalize hxs:ps.map (·.2)=xs at *
 generalize hvs:qs.map (·.2)=vs at *
 have b:∀z∈xs,dY (cg e) z:=fun z k=>by
  rw[<-hxs]at k;obtain⟨p,r,rfl⟩:=ib.1 k;exact o p r
 obtain⟨R,I,J,A⟩:=lX E e xs vs y b;rw[d]at I J A;have f:cg e<=2:=by unfold cg;split<;>omega
 have B:n*cg e<=32:=bQ (aX D f) om;have hsmall:¬(16777216<n*i.size):=by rw[a];omega
 have hfill:∀cs:Array TM,cs.size=n*i.size->Ul (fun j=>ho (j*i.size,i.size)) cs qs=ho (vs.flatMap (fun u=>u.cells.toList)).toArray:=by
  intro cs g;rw[q,a,ES xs vs 0 cs y b (by rw[g,a,aM,d,aA];exact ag _),dO,Da _ _ (by rw[g,a,A,aA])]
 by_cases s:n*i.size=0
 .have hfill0:=hfill (Array.map (fun _=>default) (Array.range 0)) (by simp[s])
  simp[Uz,bM v,de h,s,Wn,hfill0]
 .have hfill1:=hfill ((Array.range (n*i.size)).map (zv.cells[· % zv.cells.size]!)) sm
  simp[Uz,bM v,de h,hsmall,Wn,Uv,Uw,h,G,hfill1];intro K;exact absurd K s
def ve{K:AV->St->Prop}(h:da t n ps S K){w:TO}(l:eF w S){qs:List (Nat×TM)}(m:qJ w S.dom ps qs) :
  Ek (Uz t n qs.toArray) w S K:=by
 unfold da at h
 cases f:dQ t with
 | none=>rw[f]at h;exact h.elim
 | some e =>
  rw[f]at h;obtain⟨g,a,s,i,b,u⟩:=h;have c:=rE f g a s i b l m;obtain⟨v,_⟩:=qI ps qs m;have j:(ps.map (·.2)).length=n:=by simp[a]
  have d:∀z∈ps.map (·.2),dY (cg e) z:=fun z x=>by
   obtain⟨p,k,rfl⟩:=ib.1 x;exact b p k
  obtain⟨y,o,q,r⟩:=lX l e _ _ v d;rw[j]at o q r;refine⟨_,_,_,_,u _ y,?_,o,q,c⟩;simp only[bI,dO,aM];exact⟨n,_,e,(0,0),rfl,ag _,jB w _,by rw[ct,r];exact ag _⟩
def eP(t:TW)(n:Nat)(ps:List (Nat×AV))(z:AV):Prop:=match dQ t with
 | some e=>ps=eD 0 (ps.map (·.2))/\ps.length=n/\n<=16/\(fZ e).isSome=TN/\(∀p∈ps,dY (cg e) p.2)/\z=.lst (cg e) n (fun j=>(ps.map (·.2)).getD j .any)
 | ae=>False
def uA{z:AV}(h:eP t n ps z){w:TO}(i:eF w S){qs:List (Nat×TM)}(s:qJ w S.dom ps qs) :
  ∃v w',(Uz t n qs.toArray).run ak w=.ok v w'/\bI w' S.dom z v/\dA (fun _=>False) (fun _=>False) w w':=by
 unfold eP at h
 cases l:dQ t with
 | none=>rw[l]at h;exact h.elim
 | some e =>
  rw[l]at h;obtain⟨m,a,B,o,d,rfl⟩:=h;have f:=rE l m a B o d i s;obtain⟨x,_⟩:=qI ps qs s;have C:(ps.map (·.2)).length=n:=by simp[a]
  have b:∀z∈ps.map (·.2),dY (cg e) z:=fun z E=>by
   obtain⟨p,r,rfl⟩:=ib.1 E;exact d p r
  obtain⟨F,L,M,N⟩:=lX i e _ _ x b;obtain⟨O,P,Q,G⟩:=iR (ps.map (·.2)) (qs.map (·.2)) x b
  generalize hcs:((qs.map (·.2)).flatMap (fun u=>u.cells.toList))=cs at *
  have H:(w.alloc (TP cs.toArray e)).heap.size=w.heap.size+1:=by simp
  have hkeep:∀k,k<w.heap.size->(w.alloc (TP cs.toArray e)).heap[k]? = w.heap[k]?:=fun k g=>by
   show(w.heap.push _)[k]? = _;rw[Array.getElem?_push_lt g,dy g]
  have y:∀D:Nat->Prop,dA D D w (w.alloc (TP cs.toArray e)):=fun D=>⟨rfl,rfl,rfl,om,fun k g _=>hkeep k g,fun k c ty fr A=>⟨c,by rw[hkeep k (fN A)];exact A,rfl⟩,fun _ _ h=>h⟩
  refine⟨_,_,f,?_,y _⟩;simp only[bI];refine⟨_,n,rfl,ag _,fun _=>⟨w.heap.size,0,rfl,om,fun I=>I F,fun j R=>?_⟩⟩
  obtain⟨u,J,K⟩:=G j om;refine⟨u,⟨cs.toArray,e,(0,0),jB w _,K cs.toArray 0 (fun q T=>by simp)⟩,bI.grow i.noU (y _) _ _ J⟩
def RQ(op:UnOp)(x:AV)(K:AV->Prop):Prop:=match op,x with
 | .neg,.int k n=>K (.int k (k.wrap (0-n)))
 | .not,.bool b=>K (.bool (!b))
 | _,_=>False
def Cx{op:UnOp}(h:RQ op x K){w:TO}{M:Nat->Prop}{v:TM}(a:bI w M x v):∃z u,K z/\bI w M z u/\(Vq op v).run ak w=.ok u w:=by
 unfold RQ at h;split at h
 .rename_i k n;simp only[bI]at a;subst a;exact⟨_,TQ k (k.wrap (0-n)),h,by simp[bI],by simp[Vq,Op.intArith]⟩
 .rename_i b;simp only[bI]at a;subst a;exact⟨_,TR (!b),h,by simp[bI],by simp[Vq]⟩
 .exact h.elim
def xR:TW->Option IntKind
 | 2=>ho .i64
 | 3=>ho .i64
 | 5=>ho .u8
 | 34=>ho .i64
 | 97=>ho .u64
 | _=>ae
def kChk(P:Vb)(s t:TW):Option UJ:=match P.underlying s,P.underlying t with
 | some _,ho (.int k)=>ho k
 | _,_=>ae
def C6(s:TW):Bool:=s==2||s==3||s==5||s==25||s==41||s==97
def AN(s d:TW)(x:AV)(K:AV->Prop):Prop:=match xR d,x with
 | some k,.int _ n=>C6 s=TN/\K (.int k (k.wrap n))
 | _,_=>False
def OB{s d:TW}{k:UJ}(e:C6 s=TN)(c:xR d=ho k):∃u,ak.underlying s=ho u/\ak.underlying d=ho (.int k):=by
 have f:∀u,(ak.underlying s).isSome=TN->ak.underlying d=ho u->∃x,ak.underlying s=ho x/\ak.underlying d=ho u:=fun u a b=>⟨_,Option.eq_some_of_isSome a,b⟩;refine f _ ?_ ?_
 .unfold C6 at e;simp only[qh,vV]at e;rcases e with ((((rfl|rfl)|rfl)|rfl)|rfl)|rfl<;>kernel_rfl
 .unfold xR at c;split at c<;>first|(cases c;kernel_rfl)|cases c
def yc{s d:TW}(h:AN s d x K){w:TO}{M:Nat->Prop}{v:TM}(a:bI w M x v):∃z u,K z/\bI w M z u/\(convert s d v).run ak w=.ok u w:=by
 unfold AN at h;split at h
 .rename_i k k' n b;obtain⟨c,e⟩:=h;obtain⟨u,f,g⟩:=OB c b;simp only[bI]at a;subst a;refine⟨_,TQ k (k.wrap n),e,by simp[bI],?_⟩
  simp only[convert,j9,bM f,bM g,ir];simp[Conv.intToInt]
 .exact h.elim

end Go.Proofs.YtdobfmlmenaajaaGreatDoor
