/-
  Lemmas for NeighbourVerify.
-/
import Derived.Test.YtdobfmlmenaajaaGreatDoorV11
namespace Go.Proofs.YtdobfmlmenaajaaGreatDoor
open Go.RowKit Tryz
open _root_.List renaming replicate→bZ,getD→cS
open _root_.Nat renaming beq→ap,div→qY
open _root_.Option renaming none→ab
open Tryz renaming prog→ai
open Value renaming int→dL
set_option maxHeartbeats 6400000
set_option maxRecDepth 4096
set_option linter.all false
variable{d:Int}{ps qq qs rs vs xs ys:List Nat}{B B1 N V X b car g i j k m n s u v:Nat}{f:Nat->Nat}{S:St}{α:Type}{w w0 w1 w2 wr:World}{A H Q:aH}
def B4(x bo y:Nat)(a:x<4294967296)(b:bo<=1)(c:y<4294967296) :
  IntKind.u64.wrap (IntKind.u64.wrap ((x:Int)-y)-bo)=((x+18446744073709551616-y-bo)%18446744073709551616:Nat):=by
 rw[ci,ci];omega
def LA.other{gv:Nat}(h:LA B w wr gv n ys)(b:B<=g)(a:gv≠g)(k:Nat)(u:Value):LA B w (wr.setCell ⟨g,k,none⟩ u) gv n ys:=by
 obtain⟨c,d,e,f,cs,i,j⟩:=h;exact⟨c.setCell (by exact b) _,d,e,f,cs,i.other a,j⟩
def LA.still{wr':World}(h:LA B w wr g n ps)(a:eh wr wr'):LA B w wr' g n ps:=by
 obtain⟨b,c,d,e,cs,f,i⟩:=h;exact⟨b.trans (a.below B),c,d,e,cs,by unfold gK at *;rw[a.heap];exact f,i⟩
def yJ(h:f n=0):vF (n+1) f=vF n f:=by simp only[vF,h,vS,cN]
def JS{qW z:Nat}(h:vF i (jV (lf qs) j)+g*vF i (lf ys)=vF i (jV (lf ps) j)+(qW+car)*4294967296^i)(d:qW<=1)(e:u<4294967296)
  (b:lf ps (j+i)=u) (f:lf ys i=v) (k:g*v=z) (l:j+i<qs.length) :
  (u+18446744073709551616-(car+z)%4294967296-qW)%18446744073709551616/9223372036854775808<=1 /\
  vF (i+1) (jV (lf (qs.set (j+i) ((u+18446744073709551616-(car+z)%4294967296-qW)%4294967296))) j)+g*vF (i+1) (lf ys) =
   vF (i+1) (jV (lf ps) j)+((u+18446744073709551616-(car+z)%4294967296-qW)%18446744073709551616/9223372036854775808+(car+z)/4294967296)*4294967296^(i+1):=by
 subst k f;have a:jV (lf ps) j i=u:=b;have c:=Tp (q':=jV (lf (qs.set (j+i) ((jV (lf ps) j i+18446744073709551616-(car+g*lf ys i)%4294967296-qW)%4294967296))) j) h d (by rw[a];exact e) (fun m n=>by
  unfold jV;exact gH om) (by
  generalize (jV (lf ps) j i+18446744073709551616-(car+g*lf ys i)%4294967296-qW)%4294967296=x;unfold jV;exact rE l)
 rw[a]at c;exact⟨c.1,c.2.2⟩
def Qa{qW W:Nat}(h:vF n (jV (lf qs) j)+g*vF n (lf ys)=vF n (jV (lf ps) j)+(qW+car)*4294967296^n)(e:qW<=1)(f:u<4294967296)
  (a:lf ps (j+n)=u) (b:lf ys n=0) (c:car<4294967296) (i:j+n<qs.length) (k:W=(u+18446744073709551616-car-qW)%18446744073709551616) {m:Nat} (l:n+1=m) :
  W/9223372036854775808<=1/\vF m (jV (lf (qs.set (j+n) (W%4294967296))) j)+g*vF n (lf ys)=vF m (jV (lf ps) j)+W/9223372036854775808*4294967296^m:=by
 subst l;have d:=JS h e f a b (d7 g) i;rw[show car+0=car from rfl,ef c,eY c,cN,<-k,yJ b,show(u+18446744073709551616-car-qW)%4294967296=W%4294967296 by omega]at d
 exact d
def JT(h:vF i (jV (lf rs) j)+car*4294967296^i=vF i (jV (lf qq) j)+vF i (lf ys))(c:lf qq (j+i)=u)(d:lf ys i=v)(e:j+i<rs.length) :
  vF (i+1) (jV (lf (rs.set (j+i) ((car+(u+v))%4294967296))) j)+(car+(u+v))/4294967296*4294967296^(i+1)=vF (i+1) (jV (lf qq) j)+vF (i+1) (lf ys):=by
 subst d;have a:jV (lf qq) j i=u:=c;have b:=Ts (q':=jV (lf (rs.set (j+i) ((car+(jV (lf qq) j i+lf ys i))%4294967296))) j) h (fun m f=>by
  unfold jV;exact gH om) (by
  generalize (car+(jV (lf qq) j i+lf ys i))%4294967296=x;unfold jV;exact rE e)
 rw[a]at b;exact b
def Qf(h:vF n (jV (lf rs) j)+car*4294967296^n=vF n (jV (lf qq) j)+vF n (lf ys))(c:lf qq (j+n)=u)(a:lf ys n=0)(f:car<4294967296)(d:j+n<rs.length){m:Nat}(e:n+1=m) :
  vF m (jV (lf (rs.set (j+n) ((u+car)%4294967296))) j)+(u+car)/4294967296*4294967296^m=vF m (jV (lf qq) j)+vF n (lf ys):=by
 subst e;have b:=JT h c a d;rw[cN u,jY car u,yJ a]at b;exact b
def Au(B:Nat)(w0 w:World)(g gv N M j k c1 c2:Nat)(ps ys:List Nat)(hN:N<=268435457)(hjk:j+k+3<=N)(hkM:k+3<=M)(hne:gv≠g)(hp:LA B w0 w g N ps)(hy:LA B w0 w gv M ys)
  (hv0:0<lf ys (k+1)) (hvt:lf ys (k+2)=0) (hU:vF (k+3) (jV (lf ps) j)<vF (k+2) (lf ys)*4294967296) (P:World->Prop) (hPs:∀wr wr',eh wr wr'->P wr->P wr') (hPc:∀(wr:World) (q:Nat) (u:Value),P wr->P (wr.setCell ⟨g,q,none⟩ u)) (hP:P w) :
  Calls ai 200 #[.slice (some ⟨g,j,none⟩) (k+3) c1,.slice (some ⟨gv,0,none⟩) (k+2) c2] w fun e w'=>∃qs,e=.returned (.int .u32 ((vF (k+3) (jV (lf ps) j)/vF (k+2) (lf ys):Nat):Int))/\LA B w0 w' g N qs/\LA B w0 w' gv M ys/\P w' /\
   (∀t,t<j∨j+k+3<=t->lf qs t=lf ps t)/\vF (k+3) (jV (lf qs) j)=vF (k+3) (jV (lf ps) j)%vF (k+2) (lf ys):=by
 have hlp:=uF hp.2.2.2.1;have hly:=uF hy.2.2.2.1;have hBg:=hp.2.1;have HPS:=ac hPs;clear hPs;have HPC:=ac hPc;clear hPc;have HP0:=ac hP;clear hP;obtain⟨a2,f2⟩:=hp.at_ (k:=j+(k+2)) om;obtain⟨a1,f1⟩:=hp.at_ (k:=j+(k+1)) om;obtain⟨a0,f0⟩:=hp.at_ (k:=j+k) om;obtain⟨d1,e1⟩:=hy.at_ (k:=k+1) om;obtain⟨d0,e0⟩:=hy.at_ (k:=k) om;have x2:=hlp (j+(k+2));have x1:=hlp (j+(k+1));have x0:=hlp (j+k);have y1:=hly (k+1);have y0:=hly k;have HK:=ac (KG.init (k:=k) (u:=jV (lf ps) j) (v:=lf ys) hv0 fun i _=>hlp _);have HFI:=ac (NG (k:=k) (u:=jV (lf ps) j) (v:=lf ys) (fun i _=>hly i) hU);have HHP:=ac hp;clear hp;have HHY:=ac hy;clear hy;have HU:=ac hU;clear hU;have HLP:=ac hlp;clear hlp;have HLY:=ac hly;clear hly;have HVT:=ac hvt;clear hvt;change w.cell? ⟨g,j+(k+2),none⟩=some (.int .u32 (lf ps (j+(k+2)):Nat))at a2;change w.cell? ⟨g,j+(k+1),none⟩=some (.int .u32 (lf ps (j+(k+1)):Nat))at a1;change w.cell? ⟨g,j+k,none⟩=some (.int .u32 (lf ps (j+k):Nat))at a0;change w.cell? ⟨gv,k+1,none⟩=some (.int .u32 (lf ys (k+1):Nat))at d1;change w.cell? ⟨gv,k,none⟩=some (.int .u32 (lf ys k:Nat))at d0;change Hid (KG k (jV (lf ps) j) (lf ys) ((lf ps (j+(k+2))*4294967296+lf ps (j+(k+1)))/lf ys (k+1)) ((lf ps (j+(k+2))*4294967296+lf ps (j+(k+1)))%lf ys (k+1)))at HK;generalize hX2:lf ps (j+(k+2))=X2 at a2 x2 HK;generalize hX1:lf ps (j+(k+1))=X1 at a1 x1 HK;generalize hX0:lf ps (j+k)=X0 at a0 x0;generalize hY1:lf ys (k+1)=Y1 at d1 y1 hv0 HK;generalize hY0:lf ys k=Y0 at d0 y0;have HX2:=ac hX2;clear hX2;have HX1:=ac hX1;clear hX1;have HX0:=ac hX0;clear hX0;have HY1:=ac hY1;clear hY1;have HY0:=ac hY0;clear hY0;have hv0':(Y1:Int)≠0:=om
 have hv0n:Y1≠0:=om
 have HO:=ac (rj x2 x1);have ST:=ac (show ∀wr,eh w wr->(wr.cell? ⟨g,j+(k+2),none⟩=some (.int .u32 X2)/\wr.cell? ⟨g,j+k,none⟩=some (.int .u32 X0))/\wr.cell? ⟨gv,k+1,none⟩=some (.int .u32 Y1)/\wr.cell? ⟨gv,k,none⟩=some (.int .u32 Y0)from fun wr h=>⟨⟨(h.cell _).trans a2,(h.cell _).trans a0⟩,(h.cell _).trans d1,(h.cell _).trans d0⟩)
 go_enter func200,ntmps200
 go_wp2
 go_quiet (fail)
 go_wp2
 go_quiet (fail)
 clear a2 a1 a0 d1 d0 f2 f1 f0 e1 e0;go_wp2
 go_loopw [7,8] (fun gvv rvv wr=>∃(G R:Nat),gvv=.int .u64 G/\rvv=.int .u64 R/\R<4294967296/\G<18446744073709551616/\Hid (eh w wr)/\Hid (KG k (jV (lf ps) j) (lf ys) G R)) (fun gvv _ _=>(intOf gvv).toNat)
 case atStart =>
  have hh:X2*4294967296+X1<18446744073709551616:=om
  have hq:=iz (X2*4294967296+X1) Y1;have hr:=dh (X2*4294967296+X1) hv0;refine⟨_,_,?_,?_,Nat.lt_trans hr y1,eS hq hh,ac (by repeat' (first|exact eh.refl _|apply eh.more)),HK⟩
  .rw[HO.out,fU (cO _),<-l8,ci];generalize (X2*4294967296+X1)/Y1=q at *;congr 1;omega
  .rw[HO.out,aN (cO _),kw]
 case round =>
  obtain⟨G,R,rfl,rfl,hR,hG,HS,HKG⟩:=hrel;obtain⟨⟨a2,a0⟩,d1,d0⟩:=ST.out _ HS.out;clear HO HK x1 HX1;have hO2:=rj hR x0;obtain⟨Z,hZ⟩:∃Z,G*Y0=Z:=⟨_,rfl⟩;have hZi:(G:Int)*(Y0:Int)=(Z:Int):=by rw[<-hZ];simp
  have hZl:G<4294967296->Z<=18446744065119617025:=fun h=>hZ▸ot h y0;have hst:4294967296<=G∨R*4294967296+X0<Z->0<G/\Hid (KG k (jV (lf ps) j) (lf ys) (G-1) (R+Y1)):=fun h=>by
   have:=HKG.out.step (fun i _=>HLP.out _) HU.out (by rw[HY0.out,show jV (lf ps) j k=lf ps (j+k)from rfl,HX0.out,hZ];exact h)
   rw[HY1.out]at this;exact⟨this.1,ac this.2⟩
  have hbr:0<G->Hid (KG k (jV (lf ps) j) (lf ys) (G-1) (R+Y1))->4294967296<=R+Y1->Hid (G-1<4294967296/\(G-1)*vF (k+2) (lf ys)<vF (k+3) (jV (lf ps) j)+vF (k+2) (lf ys)/\∃r,KG k (jV (lf ps) j) (lf ys) (G-1) r):=fun h0 HK2 hr=>by
   have hF:=HK2.out.g_lt HFI.out (by rw[show jV (lf ps) j (k+1)=lf ps (j+(k+1))from rfl];exact HLP.out _) hr
   exact ac ⟨hF,HK2.out.last (fun i _=>HLY.out i) (by rw[HY1.out];exact hv0) hF (KG.big (HLY.out k) hF hr),_,HK2.out⟩
  have hen:G<4294967296->Z<=R*4294967296+X0->Hid (G<4294967296/\G*vF (k+2) (lf ys)<vF (k+3) (jV (lf ps) j)+vF (k+2) (lf ys)/\∃r,KG k (jV (lf ps) j) (lf ys) G r):=fun h0 h1 =>
   ac ⟨h0,HKG.out.last (fun i _=>HLY.out i) (by rw[HY1.out];exact hv0) h0 (by rw[HY0.out,show jV (lf ps) j k=lf ps (j+k)from rfl,HX0.out,hZ];exact h1),_,HKG.out⟩
  have HST:=ac hst;clear hst;have HBR:=ac hbr;clear hbr;have HEN:=ac hen;clear hen;have HZL:=ac hZl;clear hZl;clear hZ;rcases (show(4294967296<=G/\R+Y1<4294967296)∨(G<4294967296/\R*4294967296+X0<Z/\R+Y1<4294967296)∨(4294967296<=G/\4294967296<=R+Y1)∨(G<4294967296/\R*4294967296+X0<Z/\4294967296<=R+Y1)∨(G<4294967296/\Z<=R*4294967296+X0)from by omega)with h|h|h|h|h
  .obtain⟨hbig,hr⟩:=h;obtain⟨hg0,HK2⟩:=HST.out (bW hbig);have hs1:¬(G:Int)/4294967296=0:=om
   have hs2:((G:Int)/4294967296==0)=false:=by simpa using hs1
   have hs3:((G:Int)/4294967296 != 0)=true:=by simpa using hs1
   have hr1:((R:Int)+Y1)/4294967296=0:=om
   go_wp2
   go_quiet (fail)
   go_wp2
   go_roundw
   case rel=>exact⟨G-1,R+Y1,by go_num,by go_num,hr,om,ac (by repeat' (first|exact HS.out|apply eh.more)),HK2⟩
   case measure=>simp[intOf];omega
  .obtain⟨hsm,hlt,hr⟩:=h;obtain⟨hg0,HK2⟩:=HST.out (bQ hlt);have hZl:=HZL.out hsm;have hs1:(G:Int)/4294967296=0:=om
   have hs2:((G:Int)/4294967296==0)=true:=by simpa using hs1
   have hs3:((G:Int)/4294967296 != 0)=false:=by simpa using hs1
   have hc1:bits .or .u64 ((R:Int)*4294967296) (X0:Int)<(Z:Int):=by rw[hO2];omega
   have hc2:decide (bits .or .u64 ((R:Int)*4294967296) (X0:Int)<(Z:Int))=true:=by simpa using hc1
   have hr1:((R:Int)+Y1)/4294967296=0:=om
   clear hO2;go_wp2
   go_quiet (fail)
   go_wp2
   go_roundw
   case rel=>exact⟨G-1,R+Y1,by go_num,by go_num,hr,om,ac (by repeat' (first|exact HS.out|apply eh.more)),HK2⟩
   case measure=>simp[intOf];omega
  all_goals first
   | (obtain⟨hbig,hr⟩:4294967296<=G/\4294967296<=R+Y1:=h
      obtain⟨hg0,HK2⟩:=HST.out (bW hbig);have HE:=HBR.out hg0 HK2 hr;have hs1:¬(G:Int)/4294967296=0:=om
      have hs2:((G:Int)/4294967296==0)=false:=by simpa using hs1
      have hs3:((G:Int)/4294967296 != 0)=true:=by simpa using hs1
      have hr1:¬((R:Int)+Y1)/4294967296=0:=om
      have hw:IntKind.u64.wrap ((G:Int)-1)=((G-1:Nat):Int):=by rw[ci];omega
      clear hO2 HK2)
   | (obtain⟨hsm,hlt,hr⟩:G<4294967296/\R*4294967296+X0<Z/\4294967296<=R+Y1:=h
      obtain⟨hg0,HK2⟩:=HST.out (bQ hlt);have HE:=HBR.out hg0 HK2 hr;have hZl:=HZL.out hsm;have hs1:(G:Int)/4294967296=0:=om
      have hs2:((G:Int)/4294967296==0)=true:=by simpa using hs1
      have hs3:((G:Int)/4294967296 != 0)=false:=by simpa using hs1
      have hc1:bits .or .u64 ((R:Int)*4294967296) (X0:Int)<(Z:Int):=by rw[hO2];omega
      have hc2:decide (bits .or .u64 ((R:Int)*4294967296) (X0:Int)<(Z:Int))=true:=by simpa using hc1
      have hr1:¬((R:Int)+Y1)/4294967296=0:=om
      have hw:IntKind.u64.wrap ((G:Int)-1)=((G-1:Nat):Int):=by rw[ci];omega
      clear hO2 HK2)
   | (obtain⟨hsm,hge⟩:G<4294967296/\Z<=R*4294967296+X0:=h
      have HE:=HEN.out hsm hge;have hZl:=HZL.out hsm;have hs1:(G:Int)/4294967296=0:=om
      have hs2:((G:Int)/4294967296==0)=true:=by simpa using hs1
      have hs3:((G:Int)/4294967296 != 0)=false:=by simpa using hs1
      have hc1:¬bits .or .u64 ((R:Int)*4294967296) (X0:Int)<(Z:Int):=by rw[hO2];omega
      have hc2:decide (bits .or .u64 ((R:Int)*4294967296) (X0:Int)<(Z:Int))=false:=by simpa using hc1
      obtain⟨F,hF⟩:∃F,F=G:=⟨_,rfl⟩;subst hF;clear hO2)
  all_goals go_wp2
  all_goals go_quiet (fail)
  all_goals go_wp2
  all_goals try (have:=hg0;generalize G-1=F at HE ⊢)
  all_goals (
   clear HST HBR HEN HZL hZi;obtain⟨hF4,hFV,⟨rr,hKF⟩⟩:=HE.out;have HFV:=ac hFV;clear hFV;have HKF:=ac hKF;clear hKF
   go_loopw [9,10,83] (fun cv bv iv wr=>∃(i car qW:Nat) (qs:List Nat),i<=k+2/\iv=.int .i64 i/\cv=.int .u64 car/\bv=.int .u64 qW/\car<4294967296/\qW<=1/\Hid (LA B w0 wr g N qs)/\Hid (LA B w0 wr gv M ys)/\Hid (P wr)/\Hid (∀t,t<j∨j+i<=t->lf qs t=lf ps t)/\Hid (vF i (jV (lf qs) j)+F*vF i (lf ys)=vF i (jV (lf ps) j)+(qW+car)*4294967296^i)) (fun _ _ iv _=>(k+2)-(intOf iv).toNat))
  all_goals try exact⟨0,0,0,ps,om,rfl,rfl,rfl,om,om,ac (HHP.out.still (by repeat' (first|exact HS.out|apply eh.more))),ac (HHY.out.still (by repeat' (first|exact HS.out|apply eh.more))),ac (HPS.out w _ (by repeat' (first|exact HS.out|apply eh.more)) HP0.out),ac (fun _ _=>rfl),ac (by simp[vF])⟩
  all_goals (
   clear a2 a0 d1 d0;obtain⟨i,car,qW,qs,hi,rfl,rfl,rfl,hcar,hbor,HA,HB,HPP,HQ,HV⟩:=hrel;by_cases hin:i<k+2
   .obtain⟨hcu,hfu⟩:=HA.out.at_ (k:=j+i) om;obtain⟨hcv,hfv⟩:=HB.out.at_ (k:=i) om;have hu4:=HLP.out (j+i);have hv4:=HLY.out i;rw[show qs.getD (j+i) 0=lf ps (j+i)from HQ.out _ (bQ (ae _))]at hcu;change _=some (dL .u32 (lf ys i:Nat))at hcv;generalize hu:lf ps (j+i)=u at hcu hu4;generalize hv:lf ys i=v at hcv hv4;have hz4:=ot hF4 hv4;obtain⟨z,hz⟩:∃z,F*v=z:=⟨_,rfl⟩;rw[hz]at hz4;have hzi:(F:Int)*(v:Int)=(z:Int):=by rw[<-hz];simp
    have HSB:=ac (JS HV.out hbor hu4 hu hv hz (by rw[HA.out.2.2.1];omega))
    clear hz hu hv;have HW:=ac (show IntKind.u64.wrap (IntKind.u64.wrap ((u:Int)-((car:Int)+z)%4294967296)-qW)=((u+18446744073709551616-(car+z)%4294967296-qW)%18446744073709551616:Nat) by
     rw[show((car:Int)+z)%4294967296=(((car+z)%4294967296:Nat):Int) by omega]
     exact B4 u qW ((car+z)%4294967296) hu4 hbor om)
    have hin':(i:Int)<(k:Int)+2:=om
    have hi0:(0:Int)<=i:=om
    go_wp2
    go_roundw
    case rel =>
     rw[HW.out,DH,H6];refine⟨i+1,(car+z)/4294967296,_,_,om,by go_num,by go_num,rfl,om,HSB.out.1,ac (HA.out.put (k:=j+i) om om),ac (HB.out.other HA.out.2.1 hne _ _),ac (HPC.out _ _ _ HPP.out),ac (fun t ht=>?_),ac HSB.out.2⟩
     rw[show lf (qs.set (j+i) _) t=lf qs t from gH om];exact HQ.out t om
    case measure=>simp[intOf];omega
   .obtain rfl:i=k+2:=om
    obtain⟨hcu,hfu⟩:=HA.out.at_ (k:=j+(k+2)) om;have hu4:=HLP.out (j+(k+2));rw[show qs.getD (j+(k+2)) 0=lf ps (j+(k+2))from HQ.out _ (bQ (ae _))]at hcu;have hW0:=B4 (lf ps (j+(k+2))) qW car hu4 hbor hcar;generalize hu:lf ps (j+(k+2))=u at hcu hu4 hW0;obtain⟨W,hW⟩:∃W,W=(u+18446744073709551616-car-qW)%18446744073709551616:=⟨_,rfl⟩;have HSB:=ac (Qa HV.out hbor hu4 hu HVT.out hcar (by rw[HA.out.2.2.1];omega) hW (show k+2+1=k+3 from rfl))
    rw[<-hW]at hW0;have hW64:W<18446744073709551616:=om
    clear hW hu;have hput:=HA.out.put (k:=j+(k+2)) (x:=W%4294967296) om om;have hoth:=HB.out.other HA.out.2.1 hne (j+(k+2)) (.int .u32 ((W%4294967296:Nat):Int));have hout:∀t,t<j∨j+k+3<=t->lf (qs.set (j+(k+2)) (W%4294967296)) t=lf ps t:=fun t ht=>by
     rw[show lf (qs.set (j+(k+2)) _) t=lf qs t from gH om];exact HQ.out t om
    have HP:=ac hput;clear hput;have HOT:=ac hoth;clear hoth;have HPT:=ac (HPC.out _ (j+(k+2)) (.int .u32 ((W%4294967296:Nat):Int)) HPP.out);have HOU:=ac hout;clear hout;by_cases hb:W/9223372036854775808=0
    .have hb1:(W:Int)/9223372036854775808=0:=om
     obtain⟨k1,k2⟩:=Qd HKF.out HSB.out.2 hb;have HK1:=ac k1;clear k1;have HK2:=ac k2;clear k2;clear HSB HKF HFV;go_wp2;go_ret;exact⟨_,by rw[<-HK1.out];rfl,by simpa using HP.out,by simpa using HOT.out,by simpa using HPT.out,HOU.out,HK2.out⟩
    .have hb1:¬(W:Int)/9223372036854775808=0:=om
     have hb2:W/9223372036854775808=1:=om
     have HQL:=ac (uF HP.out.2.2.2.1);have HSB0:=HSB;clear HSB;generalize hqq:qs.set (j+(k+2)) (W%4294967296)=qq at HSB0 HP HOU HQL;have hqx:lf qq (j+(k+2))=W%4294967296:=by rw[<-hqq,rE (by rw[HA.out.2.2.1];omega)]
     have HQX:=ac hqx;clear hqx;clear hqq HQ HV;go_wp2
     go_loopw [9,136] (fun cv iv wr=>∃(i car:Nat) (rs:List Nat),i<=k+2/\iv=.int .i64 i/\cv=.int .u64 car/\car<4294967296/\Hid (LA B w0 wr g N rs)/\Hid (LA B w0 wr gv M ys)/\Hid (P wr)/\Hid (∀t,t<j∨j+i<=t->lf rs t=lf qq t)/\Hid (vF i (jV (lf rs) j)+car*4294967296^i=vF i (jV (lf qq) j)+vF i (lf ys))) (fun _ iv _=>(k+2)-(intOf iv).toNat)
     case atStart=>exact⟨0,0,qq,om,rfl,rfl,om,ac (by simpa using HP.out),ac (by simpa using HOT.out),ac (by simpa using HPT.out),ac (fun _ _=>rfl),ac (by simp[vF])⟩
     case round =>
      clear HA HB HP HOT HPP HPT;obtain⟨i,car,rs,hi,rfl,rfl,hcar,HA,HB,HPP,HQ,HV⟩:=hrel;by_cases hin:i<k+2
      .obtain⟨hcu,hfu⟩:=HA.out.at_ (k:=j+i) om;obtain⟨hcv,hfv⟩:=HB.out.at_ (k:=i) om;have hu4:=HQL.out (j+i);have hv4:=HLY.out i;rw[show rs.getD (j+i) 0=lf qq (j+i)from HQ.out _ (bQ (ae _))]at hcu;change _=some (dL .u32 (lf ys i:Nat))at hcv;generalize hu:lf qq (j+i)=u at hcu hu4;generalize hv:lf ys i=v at hcv hv4;have HSB:=ac (JT HV.out hu hv (by rw[HA.out.2.2.1];omega))
       clear hu hv;have hin':(i:Int)<(k:Int)+2:=om
       have hi0:(0:Int)<=i:=om
       go_wp2
       go_quiet (fail)
       go_wp2
       go_roundw
       case rel =>
        have hput:∀w',eh wr w'->LA B w0 (w'.setCell ⟨g,j+i,none⟩ (.int .u32 (((car:Int)+((u:Int)+v))%4294967296))) g N (rs.set (j+i) ((car+(u+v))%4294967296)):=fun w' h=>by
         have:=(HA.out.still h).put (k:=j+i) (x:=(car+(u+v))%4294967296) om om;simpa using this
        have hoth:∀w',eh wr w'->LA B w0 (w'.setCell ⟨g,j+i,none⟩ (.int .u32 (((car:Int)+((u:Int)+v))%4294967296))) gv M ys:=fun w' h=>(HB.out.still h).other HA.out.2.1 hne (j+i) _;refine⟨i+1,(car+(u+v))/4294967296,_,om,by go_num,by go_num,om,ac (hput _ (by repeat' (first|exact eh.refl _|apply eh.more))),ac (hoth _ (by repeat' (first|exact eh.refl _|apply eh.more))),ac (HPC.out _ _ _ (HPS.out wr _ (by repeat' (first|exact eh.refl _|apply eh.more)) HPP.out)),ac (fun t ht=>?_),HSB⟩
        rw[show lf (rs.set (j+i) _) t=lf rs t from gH om];exact HQ.out t om
       case measure=>simp[intOf];omega
      .obtain rfl:i=k+2:=om
       obtain⟨hcu,hfu⟩:=HA.out.at_ (k:=j+(k+2)) om;rw[show rs.getD (j+(k+2)) 0=W%4294967296 from(HQ.out _ (bQ (ae _))).trans HQX.out]at hcu;have HSB:=ac (Qf HV.out HQX.out HVT.out hcar (by rw[HA.out.2.2.1];omega) (show k+2+1=k+3 from rfl))
       have hput:=HA.out.put (k:=j+(k+2)) (x:=(W%4294967296+car)%4294967296) om om;have hoth:=HB.out.other HA.out.2.1 hne (j+(k+2)) (.int .u32 (((W%4294967296+car)%4294967296:Nat):Int));obtain⟨k0,k1,k2⟩:=Qc HKF.out HFV.out (fun i _=>HQL.out _) (fun i _=>uF hput.2.2.2.1 _) (fun i _=>HLY.out i) HSB0.out.2 hb2 HSB.out;have HP:=ac hput;clear hput;have HOT:=ac hoth;clear hoth;have HPT:=ac (HPC.out _ (j+(k+2)) (.int .u32 (((W%4294967296+car)%4294967296:Nat):Int)) HPP.out);have HK1:=ac k1;clear k1;have HK2:=ac k2;clear k2;have hwr:IntKind.u64.wrap ((F:Int)-1)=((F-1:Nat):Int):=by rw[ci];omega
       have hw2:IntKind.u32.wrap ((W:Int)%4294967296+car)=(((W%4294967296+car)%4294967296:Nat):Int):=by rw[L4];omega
       have hF1:((F-1:Nat):Int)%4294967296=((F-1:Nat):Int):=om
       go_wp2;go_ret;refine⟨_,?_,by simpa using HP.out,by simpa using HOT.out,by simpa using HPT.out,fun t ht=>?_,HK2.out⟩
       .rw[<-HK1.out];first|rfl|trace_state
       .rw[show lf (rs.set (j+(k+2)) _) t=lf rs t from gH om];exact(HQ.out t om).trans (HOU.out t ht))

def LA.rebase(h:LA B1 w1 w2 g n ps)(b:Below B w0 w1)(a:B<=B1):LA B w0 w2 g n ps :=
 ⟨b.trans (h.1.mono a),a9 a h.2.1,h.2.2⟩
def LA.keep(h:LA B w0 w1 g n ps)(a:Below B1 w1 w2)(b:B<=B1)(c:g<B1):LA B w0 w2 g n ps:=by
 obtain⟨d,e,f,i,cs,j,k⟩:=h;exact⟨d.trans (a.mono b),e,f,i,cs,j.below a c,k⟩
def LA.lt(h:LA B w0 w1 g n ps):g<w1.heap.size:=by
 obtain⟨b,c,d,e,cs,a,f⟩:=h;exact a.lt
def zr(l:List Nat){n:Nat}(h:l.length=n):vF n (lf l)=aZ l:=by rw[ME l,h]
def Tr(y:2<=m)(c:ys.length=m)(q:nH ys)(ty:pk ys)(z:s<32)(d:ys.getD (m-1) 0*2^s<4294967296)(l:vF (m+1) (lf vs)=vF m (lf ys)*2^s)(g:V=aZ ys*2^s) :
  lf vs m=0/\vF m (lf vs)=V/\V<=4294967296^m/\0<V/\4294967296^(m-1)<=aZ ys:=by
 have t:ys≠[]:=by intro h;subst h;simp at c;omega
 have j:=ti ty t;rw[c]at j;have o:=jc s;rw[zr ys c,<-g]at l;have k:V<4294967296^m:=by
  obtain⟨r,rfl⟩:∃r,m=r+1:=⟨m-1,om⟩
  have u:aZ ys=vF r (lf ys)+lf ys r*4294967296^r:=by rw[<-zr ys c]<;>rfl
  have A:=tU (n:=r) (f:=lf ys) fun i _=>uF q i;have v:(lf ys r+1)*2^s<=4294967296:=by
   have p:2^(32-s)*2^s=4294967296:=by rw[<-fR,(om:32-s+s=32)]
   have w:lf ys r<2^(32-s):=by
    have b:lf ys r*2^s<2^(32-s)*2^s:=by rw[p];exact d
    exact Mi b
   rw[<-p];exact aD _ w
  have x:aZ ys<(lf ys r+1)*4294967296^r:=by rw[u,dl];omega
  rw[g,cf]
  calc
   aZ ys*2^s<(lf ys r+1)*4294967296^r*2^s:=lC x o
   _=(lf ys r+1)*2^s*4294967296^r:=by rw[bB,aA (4294967296^r),<-bB]
   _<=4294967296*4294967296^r:=aD _ v
   _=_:=aA _ _
 have a:lf vs m=0:=by
  have e:vF (m+1) (lf vs)=vF m (lf vs)+lf vs m*4294967296^m:=rfl;rcases bn (lf vs m)with b|b
  .exact b
  .have:=aD (4294967296^m) (show 1<=lf vs m from b);omega
 refine⟨a,by rw[<-yJ a];exact l,dp k,?_,j⟩
 rw[g];exact IR (dK (jX om) j) o
def Qe(b:4294967296^(k+1)<=aZ ys)(a:nH vs)(c:V=aZ ys*2^s)(d:vF (k+2) (lf vs)=V):0<lf vs (k+1):=by
 rcases bn (lf vs (k+1))with h|h
 .rw[yJ h]at d;have g:=tU (n:=k+1) (f:=lf vs) fun i _=>uF a i;have e:=aV b (jc s);rw[yU,<-c]at e;omega
 .exact h
def NE{M:Nat}(i:1<=m)(a:aZ xs<4294967296^(M+m))(b:4294967296^(m-1)<=aZ ys)(c:V=aZ ys*2^s)(d:X=aZ xs*2^s):X<V*4294967296^(M+1):=by
 rw[d,c];have f:=jc s;have e:(4294967296:Nat)^(M+m)=4294967296^(m-1)*4294967296^(M+1):=by rw[<-fR];congr 1;omega
 rw[e]at a;have j:=aD (4294967296^(M+1)) b;have g:aZ xs<aZ ys*4294967296^(M+1):=om
 have h:=lC g f;rw[bB (aZ ys),aA (2^s),<-bB];exact h
def Tq{x y:Nat}(b:V=y*2^s)(c:X=x*2^s):X/V=x/y/\X%V/2^s=x%y:=by
 have a:=jc s;subst b c;refine⟨Nat.mul_div_mul_right _ _ a,?_⟩;rw[Nat.mul_mod_mul_right,Nat.mul_div_cancel _ a]
def FU(A D:Option Addr)(M k c d L:Nat)(xs ys:List Nat)(w:World)(hn:M+(k+2)<=268435000)(h2:2<M+(k+2))(hL:L<=w.heap.size)(hx:cI w L A (M+(k+2)) xs)(hy:cI w L D (k+2) ys)(tx:pk xs)(ty:pk ys)
  (h0:0<aZ ys) (hge:¬aZ xs<aZ ys) :
  Calls ai 137 #[.slice A (M+(k+2)) c,.slice D (k+2) d] w (nO w (aZ xs/aZ ys) (aZ xs%aZ ys)):=by
 have hc:0<=lB (aZ xs) (aZ ys):=by
  rcases aF (aZ ys) (aZ xs)with h|h
  .rw[kN h];omega
  .rw[lX om];omega
 have hmk:=DA (M+1) om;rw[show((M+1:Nat):Int)=(M:Int)+1 by omega]at hmk
 obtain⟨bd,rfl,hbdb,hcb⟩:=hy.2.2 om;have hcb0:=hcb (k+1) om;obtain⟨db,dof,dsp⟩:=bd;obtain rfl:dsp=none:=by simpa [Addr.add]using World.cell?_spot (hcb 0 om)
 rw[show(⟨db,dof,none⟩:Addr).add (k+1)=⟨db,dof+(k+1),none⟩from Addr.add_lit ..]at hcb0;have hy4:=hy.2.1.getD (k+1);have hyt:ys.getD (k+1) 0≠0:=by
  have hl:=hy.1;have hne:ys≠[]:=by intro h;subst h;simp at hl
  have e:=ty (ys.getLast hne) (IS hne);rw[List.getLast_eq_getElem]at e;simp only[hl]at e;rw[cS,bE om];exact e
 have hxv:=jD hx.2.1;rw[hx.1]at hxv;clear hcb;have HX:=ac hx;clear hx;have HY:=ac hy;clear hy;have HTX:=ac tx;clear tx;have HTY:=ac ty;clear ty;have HXV:=ac hxv;clear hxv;generalize hcm:lB (aZ xs) (aZ ys)=cm at hc;have Hcm:=ac hcm;clear hcm;generalize hty:ys.getD (k+1) 0=yt at hcb0 hy4 hyt;have HYT:=ac hty;clear hty;have HCB:=ac hcb0;clear hcb0;have hcn:¬cm<0:=om
 have hn2:¬(M:Int)+((k:Int)+2)<=2:=om
 have hn2':decide ((M:Int)+((k:Int)+2)<=2)=false:=by simpa using hn2
 have hk1:((k:Int)+2==1)=false:=by simp;omega
 have hk1':¬((k:Int)+2=1):=om
 clear hge
 go_enter Sp,OE
 go_wp2_with fail
 refine(ir A (some ⟨db,dof,none⟩) (M+(k+2)) (k+2) c d L xs ys w om om HX.out HY.out HTX.out HTY.out).mono ?_;rintro e w1 ⟨rfl,hst⟩;rw[Hcm.out];have HB1:=ac (hst.below w.heap.size);have hcell:w1.cell? ⟨db,dof+(k+1),none⟩=some (.int .u32 yt):=(hst.cell _).trans HCB.out;clear hst;have HY1:=ac (HY.out.below HB1.out hL);have HX1:=ac (HX.out.below HB1.out hL);have hL1:L<=w1.heap.size:=a9 hL HB1.out.size
 go_wp2_with fail
 refine(La yt w1 om hy4).mono ?_;rintro e w1' ⟨s,rfl,hs,hsh,rfl⟩
 go_wp2_with fail
 have hsz1:=HB1.out.size;refine(sK (some ⟨db,dof,none⟩) (k+2) d s L ys w1' om hs hL1 HY1.out).mono ?_;rintro e w2 ⟨cv,vs,rfl,hcv,hlv,hvv⟩;obtain⟨V,hV⟩:∃V,V=aZ ys*2^s:=⟨_,rfl⟩;obtain⟨t1,t2,t3,t4,t5⟩:=Tr (m:=k+2) om HY.out.1 HY.out.2.1 HTY.out hs (by rw[show k+2-1=k+1 from rfl,HYT.out];exact hsh) hvv hV
 have t6:=Qe t5 hlv.2.2.2.1 hV t2;have HLV:=ac hlv;clear hlv;have HX2:=ac (HX1.out.below HLV.out.1 hL1);clear hcell hsh hvv
 go_wp2_with fail
 refine(sK A (M+(k+2)) c s L xs w2 om hs (a9 hL1 HLV.out.1.size) HX2.out).mono ?_;rintro e w3 ⟨cr,rs,rfl,hcr,hlr,hvr⟩;rw[zr xs HX.out.1]at hvr;obtain⟨X,hX⟩:∃X,X=aZ xs*2^s:=⟨_,rfl⟩;have hXV:=NE (m:=k+2) (M:=M) om HXV.out t5 hV hX;rw[<-hX]at hvr;obtain⟨f1,f2⟩:=Tq hV hX;generalize hgv:w1'.heap.size=gv at HLV;generalize hgr:w2.heap.size=gr at hlr;have hgvr:gv<gr:=by rw[<-hgv,<-hgr];have:=HLV.out.lt;omega
 have HLV3:Hid (LA gv w1' w3 gv (k+2+1) vs):=ac (HLV.out.keep hlr.1 om hgvr);have HLR:Hid (LA gv w1' w3 gr (M+(k+2)+1) rs):=ac (hlr.rebase HLV.out.1 om);have hsz3:=hlr.1.size;clear hlr HLV;have HT:=ac (Bi t1 (Bi t2 (Bi t3 (Bi t4 t6))));clear t1 t2 t3 t4 t5 t6;have HF:=ac (Bi f1 f2);clear f1 f2;have HVR:=ac hvr;clear hvr;have HXV2:=ac hXV;clear hXV;clear hV hX;go_wp2;clear hmk;have hLQ:=LA.start w3 (M+1);generalize hgq:w3.heap.size=gq at hLQ;have hgq2:gr<gq:=by have:=HLR.out.lt;omega
 have HLQ:Hid (LA gv w1' (w3.alloc (.cells (dT [] (M+1)) 136)) gq (M+1) (bZ (M+1) 0)):=ac (hLQ.rebase HLR.out.1 om);have HLV4:=ac (HLV3.out.keep hLQ.1 om om);have HLR4:=ac (HLR.out.keep hLQ.1 om hgq2);clear HLV3 HLR hLQ;have HDN:=ac (DN.init (n:=k+2) (m:=M) (X:=X) (V:=V) (q:=lf (bZ (M+1) 0)) (r:=lf rs) (fun t=>by simp[lf,cS,tP];split<;>rfl) HVR.out HXV2.out (fun t ht=>H8 (by rw[HLR4.out.2.2.1];omega)))
 go_loopw [12] (fun jv wr=>∃(J:Nat) (qs rs:List Nat),J<=M+1/\jv=.int .i64 ((J:Int)-1)/\Hid (LA gv w1' wr gv (k+2+1) vs)/\Hid (LA gv w1' wr gr (M+(k+2)+1) rs)/\Hid (LA gv w1' wr gq (M+1) qs)/\Hid (DN (k+2) M X V J (lf qs) (lf rs))) (fun jv _=>(intOf jv+1).toNat)
 case atStart=>exact⟨M+1,_,rs,om,by go_num,HLV4,HLR4,HLQ,HDN⟩
 case round =>
  clear HLV4 HLR4 HLQ HDN;obtain⟨J,qs,rr,hJ,rfl,HLV,HLR,HLQ,HDN⟩:=hrel;rcases bn J with h0J|h0J
  .subst h0J;obtain⟨g1,g2⟩:=HDN.out.last;rw[HF.out.1,zr qs HLQ.out.2.2.1]at g1;have HG1:=ac g1;clear g1;have HG2:=ac g2;clear g2
   go_wp2_with fail
   refine(zM gv w1' _ gr (M+(k+2)+1) _ s rr om hs HLR.out (fun w=>LA gv w1' w gq (M+1) qs) (fun _ _ _ h=>h.other om om _ _) HLQ.out).mono ?_;rintro e w5 ⟨ps,rfl,hA,hQ,hval⟩;rw[HG2.out,HF.out.2,zr ps hA.2.2.1]at hval;have HVA:=ac hval;clear hval;have HA5:=ac hA;clear hA;have HQ5:=ac hQ;clear hQ
   go_wp2_with fail
   refine(lc _ _ _ _ _ _ om om HQ5.out.u32).mono ?_;rintro e w' ⟨⟨k1,hk1,rfl,hU1,hT1,hv1⟩,rfl⟩;have HU1:=ac hU1;clear hU1;have HT1:=ac hT1;clear hT1;have HV1:=ac hv1;clear hv1
   go_wp2_with fail
   refine(lc _ _ _ _ _ _ om om HA5.out.u32).mono ?_;rintro e w' ⟨⟨k2,hk2,rfl,hU2,hT2,hv2⟩,rfl⟩;have HU2:=ac hU2;clear hU2;have HT2:=ac hT2;clear hT2;have HV2:=ac hv2;clear hv2;go_wp2;go_ret2;exact⟨_,k1,_,_,_,k2,_,_,rfl,om,om,HU1.out,HU2.out,HT1.out,HT2.out,HV1.out.trans HG1.out,HV2.out.trans HVA.out,HB1.out.trans (HA5.out.1.mono om)⟩
  .obtain⟨j,rfl⟩:∃j,J=j+1:=⟨J-1,om⟩
   have e1:((j+1:Nat):Int)-1=j:=om
   rw[e1];have hj0:(j:Int)≥0:=om
   have hjM:(j:Int)<(M:Int)+1:=om
   have hjs:(j:Int)+((k:Int)+2)+1<=(M:Int)+((k:Int)+2)+1:=om
   have hr4:=uF HLR.out.2.2.2.1;have hun:=HDN.out.under (hr4 j);have hV2:vF (k+2) (lf vs)=V:=HT.out.2.1;have hq4:vF (k+3) (jV (lf rr) j)/V<4294967296:=Nat.div_lt_of_lt_mul (by rw[aA];rw[aA];exact hun)
   have HQ4:=ac hq4;clear hq4;have HUN:=ac hun;clear hun;have HV2:=ac hV2;clear hV2;clear hr4
   go_wp2_with fail
   rw[(om:j+(k+2)+1-j=k+3)]
   refine(Au gv w1' _ gr gv (M+(k+2)+1) (k+2+1) j k _ cv rr vs om om om om HLR.out HLV.out HT.out.2.2.2.2 HT.out.1 (by rw[HV2.out];exact HUN.out)
    (fun w=>LA gv w1' w gq (M+1) qs) (fun _ _ hs h=>h.still hs) (fun _ _ _ h=>h.other om om _ _) HLQ.out).mono ?_
   rintro e w5 ⟨rs',rfl,hA,hB,hQ,hout,hval⟩;rw[HV2.out]at hval ⊢;have hstep:=HDN.out.step (q':=lf (qs.set j (vF (k+3) (jV (lf rr) j)/V))) (r':=lf rs') HT.out.2.2.1 HT.out.2.2.2.1 (fun t ht=>hout t (bW ht)) (fun t ht=>hout t (bQ om)) hval (fun t ht=>gH (aj ht)) (rE (by rw[HLQ.out.2.2.1];omega))
   have HST:=ac hstep;clear hstep;have HQ5:=HQ4;clear HQ4 hval;generalize vF (k+3) (jV (lf rr) j)/V=q at HST HQ5 ⊢;have hq4:=HQ5.out;obtain⟨hcq,hfq⟩:=hQ.at_ (k:=j) om;have hput:=hQ.put (k:=j) (x:=q) om hq4;have HPU:=ac hput;clear hput;have HA:=ac (hA.other (g:=gq) om om j (.int .u32 (q:Nat)));have HB:=ac (hB.other (g:=gq) om om j (.int .u32 (q:Nat)));clear hA hB hQ hout;go_wp2
   go_roundw
   case rel=>exact⟨j,_,rs',om,rfl,HB,HA,HPU,HST⟩
   case measure=>simp[intOf]

def FW(A D:Option Addr)(n m c d L:Nat)(xs ys:List Nat)(w:World)(h:n<=268435000)(l:m<=268435000)(e:L<=w.heap.size)(a:cI w L A n xs)(b:cI w L D m ys)(tx:pk xs)(ty:pk ys)(f:0<aZ ys) :
  Calls ai 137 #[.slice A n c,.slice D m d] w (nO w (aZ xs/aZ ys) (aZ xs%aZ ys)):=by
 by_cases i:aZ xs<aZ ys∨n<=2∨m<=1
 .exact Av A D n m c d L xs ys w om om e a b tx ty f i
 .have j:m<=n:=by
   have g:=gk (om:aZ ys<=aZ xs)
   rw[<-aJ a tx,<-aJ b ty]at g;exact g
  obtain⟨k,rfl⟩:∃k,m=k+2:=⟨m-2,om⟩
  obtain⟨M,rfl⟩:∃M,n=M+(k+2):=⟨n-(k+2),om⟩
  exact FU A D M k c d L xs ys w h om e a b tx ty f om
def I5(va vb:Value)(za zb:Int)(B:Nat)(w:World)(e:B<=w.heap.size)(f:eV w B va za)(g:eV w B vb zb)(sa:nl za.natAbs<=268435000)(sb:nl zb.natAbs<=268435000)(h:zb≠0) :
  Calls ai 82 #[va,vb] w (ya w (za/zb) (za%zb)) :=
 Bf va vb za zb B w e f g om om h fun A D n m c d xs ys w i a b tx ty j k l=>by
  rw[<-k,<-aJ a tx]at sa;rw[<-l,<-aJ b ty]at sb;exact FW A D n m c d B xs ys w sa sb i a b tx ty j

theorem mT:∀{n:Nat} {f g:Nat->Nat},(∀i,i<n->f i=g i)->ju n f=ju n g
 | 0,_,_,_=>rfl
 | n+1,f,g,h=>by
  simp only[ju];rw[h 0 om,mT (n:=n) fun i a=>h (i+1) om]
theorem Cn:∀{n:Nat} {f:Nat->Nat} {i:Nat},i<n->ju n f=f i*ju n (fun t=>if t=i then 1 else f t)
 | n+1,f,0,_=>by
  simp only[ju,ah];rw[kQ,mT (n:=n) (f:=fun i=>if i+1=0 then 1 else f (i+1)) (g:=fun i=>f (i+1)) fun j _=>by rw[af om]]
 | n+1,f,i+1,h=>by
  simp only[ju];rw[af om,Cn (n:=n) (f:=fun i=>f (i+1)) (i:=i) om];rw[mT (n:=n) (f:=fun i_1=>if i_1+1=i+1 then 1 else f (i_1+1)) (g:=fun t=>if t=i then 1 else f (t+1)) fun j _=>by
   by_cases e:j=i
   .rw[ah e,ah om]
   .rw[af e,af om]]
  rw[<-bB,<-bB,aA (f 0)]
theorem wu:∀{n:Nat} {f:Nat->Nat},(∀i,i<n->1<=f i)->1<=ju n f
 | 0,_,_=>by simp[ju]
 | n+1,f,h=>by
  simp only[ju];exact IR (h 0 om) (wu fun i a=>h (i+1) om)
theorem Co:∀{m N:Nat} {f:Nat->Nat} {O:Nat->Nat},(∀i,i<N->1<=f i)->(∀a,a<m->O a<N)->(∀a b,a<m->b<m->O a=O b->a=b)->ju m (fun a=>f (O a))<=ju N f
 | 0,_,_,_,h,_,_=>by simp only[ju];exact wu h
 | m+1,N,f,O,h,d,g=>by
  rw[Cn (d 0 om)];simp only[ju];refine aL _ ?_;have:=Co (m:=m) (N:=N) (f:=fun t=>if t=O 0 then 1 else f t) (O:=fun a=>O (a+1)) (fun i c=>by
   split
   .exact ae _
   .exact h i c) (fun a j=>d (a+1) om) (fun a b j k e=>by
   have:=g (a+1) (b+1) om om e;omega)
  refine a9 (qQ (mT fun a j=>?_)) this;rw[af fun e=>by have:=g (a+1) 0 om om e;omega]
def zK(c:∀r,dN N (A r)<=f r){k i j:Nat}(d:k+j<N){σ:Nat->Nat}(e:∀g:Nat->Int,dN N (fun b=>g (σ b))=dN N g) :
  (cX (fun x y=>A x (σ y)) k i j).natAbs<=ju (k+1) (fun a=>f (if a<k then a else k+i)):=by
 unfold cX;refine a9 (DX _ _) (tw fun a _=>?_);refine a9 (Gh (fun y=>A (up k (fun _=>i) a) (σ y)) d) ?_;rw[e (A (up k (fun _=>i) a))];exact c _
def Bq{B:aH}(t:∀r,r<N->dN N (B r)<=f r)(p:∀r,r<N->1<=f r){k i j:Nat}(v:k+i<N)(u:k+j<N){σ:Nat->Nat}(q:∀a,a<N->σ a<N) :
  (cX (fun a b=>B (σ a) b) k i j).natAbs<=ju N f:=by
 unfold cX;have s:∀a,a<k+1->up k (fun _=>i) a<N:=fun a g=>by unfold up;split<;>omega
 by_cases d:∀a b,a<k+1->b<k+1->σ (up k (fun _=>i) a)=σ (up k (fun _=>i) b)->a=b
 .refine a9 (DX _ _) (a9 (tw fun a g=>?_) (Co (m:=k+1) (N:=N) (f:=f) (O:=fun a=>σ (up k (fun _=>i) a)) p (fun a g=>q _ (s a g)) d));exact a9 (Gh (fun y=>B (σ (up k (fun _=>i) a)) y) u) (t _ (q _ (s a g)))
 .have:∃a b,a<b/\b<k+1/\σ (up k (fun _=>i) a)=σ (up k (fun _=>i) b):=by
   refine dW fun l=>d fun a b g n e=>?_;rcases dS a b with h|h|h
   .exact(l ⟨a,b,h,n,e⟩).elim
   .exact h
   .exact(l ⟨b,a,h,g,e.symm⟩).elim
  obtain⟨a,b,o,n,e⟩:=this;rw[mW _ o n (fun c _=>by show B (σ (up k (fun _=>i) a)) _=B (σ (up k (fun _=>i) b)) _;rw[e])]
  have:=wu p;simp

def Om(n:Nat)(H:aH)(v:ig):jy n H (fun _=>0) v=0:=iP fun i _=>by simp
theorem uT(n:Nat)(H:aH)(c:Nat->Int)(u:Nat->ig)(v:ig):∀m,jy n H (fun i=>aq m (fun a=>c a*u a i)) v=aq m (fun a=>c a*jy n H (u a) v)
 | 0=>Om n H v
 | m+1=>by
  have e:(fun i=>aq (m+1) (fun a=>c a*u a i))=fun i=>1*aq m (fun a=>c a*u a i)+c m*u m i:=by
   funext i;rw[dG];rfl
  rw[e,pR,uT n H c u v m,dG];rfl
def F9(d:∀a b,a<n->b<n->H a b=H b a)(c:Nat->Int)(u:Nat->ig)(v:ig)(m:Nat):jy n H v (fun i=>aq m (fun a=>c a*u a i))=aq m (fun a=>c a*jy n H v (u a)):=by
 rw[jn d,uT];exact aB fun a _=>by rw[jn d]
def LC(b:i<n)(c:j<n):jy n Q (du i) (du j)=Q i j:=by
 rw[AH b,cJ j c (fun k _ a=>by simp[du,a])]
 simp[du]
def NM{U W:aH}(o:∀a b,a<n->b<n->Q a b=Q b a)(d:∀i j,i<n->j<n->mm n U W i j=if i=j then 1 else 0)(p:∀i j,i<n->j<n->A i j=jy n Q (fun r=>U r i) (fun r=>U r j)){i j:Nat}(e:i<n)(f:j<n) :
  jy n A (fun a=>W a i) (fun a=>W a j)=Q i j:=by
 have m:∀k,k<n->∀l,l<n->aq n (fun a=>W a k*U l a)=du k l:=fun k q l c=>by
  have:=d l k c q;unfold mm at this;rw[aB (g:=fun a=>U l a*W a k) fun a _=>ck _ _,this];simp[du]
 have s:jy n A (fun a=>W a i) (fun a=>W a j)=aq n (fun a=>W a i*jy n Q (fun r=>U r a) (fun l=>aq n (fun b=>W b j*U l b))):=by
  unfold jy;refine aB fun a t=>?_;have h:=F9 o (fun b=>W b j) (fun b r=>U r b) (fun r=>U r a) n;unfold jy at h;rw[h,ck];congr 1;refine aB fun b u=>?_;rw[p a b t u,ck];rfl
 rw[s,<-uT n Q (fun a=>W a i) (fun a r=>U r a),<-LC (Q:=Q) e f];exact sn (fun l c=>m i e l c) (fun l c=>m j f l c)
def MT(h:d*d=1):d=1∨d=-1:=by
 have a:(d-1)*(d+1)=0:=by grind
 rcases fZ.1 a with b|b<;>omega
def Lg(n:Nat)(U:aH):aH:=fun i j=>if det n U=1 then ke n U i j else-ke n U i j
def Ic(d:1<=n){U:aH}(h:det n U*det n U=1){i j:Nat}(f:i<n)(c:j<n):mm n U (Lg n U) i j=if i=j then 1 else 0:=by
 have e:mm n U (ke n U) i j=if j=i then det n U else 0:=by
  rw[<-uB U c f];exact aB fun k g=>by rw[AK d U c g]
 unfold Lg;rcases MT h with a|a
 .have b:mm n U (fun i j=>if det n U=1 then ke n U i j else-ke n U i j) i j=mm n U (ke n U) i j:=aB fun k _=>by dsimp only;rw[ah a]
  rw[b,e,a];split<;>split<;>first|rfl|omega
 .have b:mm n U (fun i j=>if det n U=1 then ke n U i j else-ke n U i j) i j=- mm n U (ke n U) i j:=by
   unfold mm;rw[<-wa];exact aB fun k _=>by dsimp only;rw[af om];grind
  rw[b,e,a];split<;>split<;>first|rfl|omega

theorem zJ:∀(n:Nat) (f:Nat->Int) (j:Nat),j<=n->aq (n+1) f=f j+aq n (fun b=>f (skip j b))
 | 0,f,j,c=>by
  obtain rfl:j=0:=om
  simp[aq]
 | n+1,f,j,c=>by
  show aq (n+1) f+f (n+1)=f j+(aq n (fun b=>f (skip j b))+f (skip j n));by_cases e:j=n+1
  .subst e;have d:aq n (fun b=>f (skip (n+1) b))=aq n f:=aB fun b g=>by unfold skip;rw[ah om]
   have a:skip (n+1) n=n:=by unfold skip;rw[ah om]
   rw[d,a];show aq n f+f n+f (n+1)=_;omega
  .rw[zJ n f j om];have a:skip j n=n+1:=by unfold skip;rw[af om]
   rw[a];omega
def K8(A:aH)(i j:Nat):aH:=fun a b=>A (skip i a) (skip j b)
def C8(h:k≠j)(c:Nat):du j (skip k c)=du (if j<k then j else j-1) c:=by
 unfold du skip;by_cases a:c<k<;>by_cases b:j<k<;>simp only[a,b,aK,aM]<;>(split<;>split)<;>omega
def PG{a:Nat}(h:a%2=b%2):nF a=nF b:=by unfold nF;rw[h]
def Jr(a b:Nat):nF a*nF b=nF (a+b):=by
 unfold nF;rcases lL a with c|c<;>rcases lL b with d|d<;>simp[c,d,Nat.add_mod]
theorem J6:∀(n:Nat) (A:aH) (i j:Nat),i<n+1->j<n+1->qa (n+1) A i j=nF (i+j)*det n (K8 A i j)
 | n,A,0,j,_,f=>by
  show aq (n+1) (fun k=>nF k*setRow A 0 (du j) 0 k*det n (cut (setRow A 0 (du j)) k))=_;rw[cJ j f (fun k _ d=>by simp[setRow,du,d]),xS,az]
  have e:setRow A 0 (du j) 0 j=1:=by simp[setRow,du]
  rw[e,iN];congr 1
 | 0,A,i+1,j,m,_=>om
 | n+1,A,i+1,j,m,f=>by
  show aq (n+1+1) (fun k=>nF k*setRow A (i+1) (du j) 0 k*det (n+1) (cut (setRow A (i+1) (du j)) k))=_;have o:∀k,setRow A (i+1) (du j) 0 k=A 0 k:=fun k=>by simp[setRow]
  rw[aB (g:=fun k=>nF k*A 0 k*det (n+1) (setRow (cut A k) i (fun c=>du j (skip k c)))) fun k _=>by rw[o,qB]]
  rw[zJ (n+1) _ j om];have ez:det (n+1) (setRow (cut A j) i (fun c=>du j (skip j c)))=0:=by
   have p:(fun c=>du j (skip j c))=fun c=>0*du j (skip j c):=by
    funext c;unfold du skip;split<;>split<;>omega
   rw[p,oS _ om];simp
  rw[ez,jZ,EK];show _=nF (i+1+j)*aq (n+1) (fun b=>nF b*K8 A (i+1) j 0 b*det n (cut (K8 A (i+1) j) b));rw[<-df];refine aB fun b v=>?_;have d:skip j b≠j:=by unfold skip;split<;>omega
  have q:(fun c=>du j (skip (skip j b) c))=du (if j<skip j b then j else j-1):=funext fun c=>C8 d c
  rw[q];have r:(if j<skip j b then j else j-1)<n+1:=by unfold skip;split<;>split<;>omega
  have ih:=J6 n (cut A (skip j b)) i _ om r;unfold qa at ih;rw[ih];have s:K8 (cut A (skip j b)) i (if j<skip j b then j else j-1)=cut (K8 A (i+1) j) b:=by
   funext a c;show A (skip i a+1) (skip (skip j b) (skip _ c))=A (skip (i+1) (a+1)) (skip j (skip b c));have t:skip (i+1) (a+1)=skip i a+1:=by unfold skip;split<;>split<;>omega
   rw[t];congr 1;unfold skip;repeat' (first|omega|split)
  have u:K8 A (i+1) j 0 b=A 0 (skip j b):=by
   show A (skip (i+1) 0) (skip j b)=_;unfold skip;simp
  rw[s,u];have es:nF (skip j b)*nF (i+(if j<skip j b then j else j-1))=nF (i+1+j)*nF b:=by
   rw[Jr,Jr];refine PG ?_;unfold skip;repeat' (first|omega|split)
  generalize nF (skip j b)=h at *;generalize nF (i+(if j<skip j b then j else j-1))=l at *
  generalize nF (i+1+j)=s3 at *;generalize nF b=s4 at *;generalize det n (cut (K8 A (i+1) j) b)=D;generalize A 0 (skip j b)=x;have:h*x*(l*D)=(h*l)*(x*D):=by grind
  rw[this,es];grind

noncomputable section
inductive XV where
 | int (k:IntKind) (n:Int)
 | bool (b:Bool)
 | big (z:Int)
 | nil
 | sl (es i off len:Nat)
 | ptr (es i k:Nat)
 | lst (es:Nat) (l:List XV)
 | pat (es:Nat) (x:XV)
 | tup (l:List XV)
 | agg (l:List XV)
 | fn (f:Nat) (l:List XV)
 | any
 | nfn
 | mfn (f:Nat) (l:List XV)
abbrev Ph:=Nat->Option Nat
variable{φ:Ph}
def Ph.le(φ ψ:Ph):Prop:=∀i b,φ i=some b->ψ i=some b
def Ph.set(φ:Ph)(i b:Nat):Ph:=fun k=>if k=i then some b else φ k
def Ph.le_refl(φ:Ph):φ.le φ:=fun _ _ h=>h
def Ph.le_trans{ψ χ:Ph}(h:φ.le ψ)(k:ψ.le χ):φ.le χ:=fun i b e=>k i b (h i b e)
def Ph.le_set(h:φ i=ab):φ.le (φ.set i b):=fun k c e=>by
 unfold Ph.set;by_cases ek:k=i
 .subst ek;rw[h]at e;cases e
 .rw[af ek];exact e
mutual
def ER(φ:Ph):XV->AV->Prop
 | .int k n,a=>a=.int k n
 | .bool b,a=>a=.bool b
 | .big z,a=>a=.big z
 | .nil,a=>a=.nil
 | .sl es i off len,a=>∃b,φ i=some b/\a=.sl es b off len
 | .ptr es i k,a=>∃b,φ i=some b/\a=.ptr es b k
 | .lst es l,a=>∃g,a=.lst es l.length g/\l0 φ l g 0
 | .pat es x,a=>∃y,a=.pat es y/\ER φ x y
 | .tup l,a=>∃r,a=.tup r/\fO φ l r
 | .agg l,a=>∃r,a=.agg r/\fO φ l r
 | .fn f l,a=>∃r,a=.fn f r/\fO φ l r
 | .any,_=>True
 | .nfn,a=>a=.nfn
 | .mfn f l,a=>∃r,a=.mfn f r/\fO φ l r
def fO(φ:Ph):List XV->List AV->Prop
 | [],[]=>True
 | x::l,a::r=>ER φ x a/\fO φ l r
 | [],_::_=>False
 | _::_,[]=>False
def l0(φ:Ph):List XV->(Nat->AV)->Nat->Prop
 | [],_,_=>True
 | x::l,g,k=>ER φ x (g k)/\l0 φ l g (k+1)
end
mutual
theorem ER.mono{φ ψ:Ph}(h:φ.le ψ):∀(x:XV) (a:AV),ER φ x a->ER ψ x a
 | .int ..,_,e=>by simpa [ER]using e
 | .bool _,_,e=>by simpa [ER]using e
 | .big _,_,e=>by simpa [ER]using e
 | .nil,_,e=>by simpa [ER]using e
 | .sl ..,_,e=>by
  simp only[ER]at e ⊢;obtain⟨b,c,d⟩:=e;exact⟨b,h _ _ c,d⟩
 | .ptr ..,_,e=>by
  simp only[ER]at e ⊢;obtain⟨b,c,d⟩:=e;exact⟨b,h _ _ c,d⟩
 | .lst _ l,_,e=>by
  simp only[ER]at e ⊢;obtain⟨g,c,d⟩:=e;exact⟨g,c,l0.mono h l g 0 d⟩
 | .pat _ x,_,e=>by
  simp only[ER]at e ⊢;obtain⟨y,c,d⟩:=e;exact⟨y,c,ER.mono h x y d⟩
 | .tup l,_,e=>by
  simp only[ER]at e ⊢;obtain⟨r,c,d⟩:=e;exact⟨r,c,fO.mono h l r d⟩
 | .agg l,_,e=>by
  simp only[ER]at e ⊢;obtain⟨r,c,d⟩:=e;exact⟨r,c,fO.mono h l r d⟩
 | .fn _ l,_,e=>by
  simp only[ER]at e ⊢;obtain⟨r,c,d⟩:=e;exact⟨r,c,fO.mono h l r d⟩
 | .any,_,_=>by simp[ER]
 | .nfn,_,e=>by simpa [ER]using e
 | .mfn _ l,_,e=>by
  simp only[ER]at e ⊢;obtain⟨r,c,d⟩:=e;exact⟨r,c,fO.mono h l r d⟩
theorem fO.mono{φ ψ:Ph}(h:φ.le ψ):∀(l:List XV) (r:List AV),fO φ l r->fO ψ l r
 | [],[],_=>by simp[fO]
 | x::l,a::r,e=>by simp only[fO]at e ⊢;exact⟨ER.mono h x a e.1,fO.mono h l r e.2⟩
 | [],_::_,e=>by simp[fO]at e
 | _::_,[],e=>by simp[fO]at e
theorem l0.mono{φ ψ:Ph}(h:φ.le ψ):∀(l:List XV) (g:Nat->AV) (k:Nat),l0 φ l g k->l0 ψ l g k
 | [],_,_,_=>by simp[l0]
 | x::l,g,k,e=>by simp only[l0]at e ⊢;exact⟨ER.mono h x _ e.1,l0.mono h l g (k+1) e.2⟩
end
theorem fO.length{φ:Ph}:∀{l:List XV} {r:List AV},fO φ l r->r.length=l.length
 | [],[],_=>rfl
 | _::_,_::_,e=>by simp only[fO]at e;simp[fO.length e.2]
 | [],_::_,e=>by simp[fO]at e
 | _::_,[],e=>by simp[fO]at e
theorem fO.get{φ:Ph}:∀{l:List XV} {r:List AV} {j:Nat} {x:XV},fO φ l r->l[j]? = some x->∃a,r[j]? = some a/\ER φ x a
 | x::l,a::r,0,y,e,h=>by
  simp only[fO]at e;simp only[c9,fv]at h;subst h;exact⟨a,rfl,e.1⟩
 | x::l,a::r,j+1,y,e,h=>by
  simp only[fO]at e;rw[cn]at h ⊢;exact fO.get e.2 h
 | [],_,_,_,_,h=>by simp at h
 | _::_,[],_,_,e,_=>by simp[fO]at e
theorem l0.get{φ:Ph}:∀{l:List XV} {g:Nat->AV} {k j:Nat} {x:XV},l0 φ l g k->l[j]? = some x->ER φ x (g (k+j))
 | x::l,g,k,0,y,e,h=>by
  simp only[l0]at e;simp only[c9,fv]at h;subst h;exact e.1
 | x::l,g,k,j+1,y,e,h=>by
  simp only[l0]at e;rw[cn]at h;have:=l0.get e.2 h
  rwa [(om:k+1+j=k+(j+1))]at this
 | [],_,_,_,_,_,h=>by simp at h
theorem l0.of{φ:Ph}:∀{l:List XV} {g:Nat->AV} {k:Nat},(∀j x,l[j]? = some x->ER φ x (g (k+j)))->l0 φ l g k
 | [],_,_,_=>by simp[l0]
 | x::l,g,k,h=>by
  simp only[l0];refine⟨h 0 x rfl,l0.of fun j y a=>?_⟩;have:=h (j+1) y (by rw[cn];exact a)
  rwa [(om:k+(j+1)=k+1+j)]at this
theorem fO.of{φ:Ph}:∀{l:List XV} {r:List AV},r.length=l.length->(∀(j:Nat) (x:XV) (a:AV),l[j]? = some x->r[j]? = some a->ER φ x a)->fO φ l r
 | [],[],_,_=>by simp[fO]
 | x::l,a::r,e,h=>by
  simp only[fO];exact⟨h 0 x a rfl rfl,fO.of (by simpa using e) fun j y b c d=>h (j+1) y b (by simpa using c) (by simpa using d)⟩
 | [],_::_,e,_=>by simp at e
 | _::_,[],e,_=>by simp at e
theorem fO.append{φ:Ph}:∀{l m:List XV} {r s:List AV},fO φ l r->fO φ m s->fO φ (l++m) (r++s)
 | [],_,[],_,_,h=>h
 | _::_,_,_::_,_,e,h=>by simp only[fO,l6]at e ⊢;exact⟨e.1,fO.append e.2 h⟩
 | [],_,_::_,_,e,_=>by simp[fO]at e
 | _::_,_,[],_,e,_=>by simp[fO]at e
structure EB where
 ty:Nat
 es:Nat
 l:List XV
inductive EL where
 | e
 | d
 | n (x:Option (Option EB)) (l r:EL)
variable{l:EL}
def eW(s:EL):Nat->Option (Option EB):=EL.rec (motive:=fun _=>Nat->Option (Option EB)) (fun _=>ab) (fun _=>some ab) (fun x _ _ a b t=>Bool.rec (Bool.rec (b (Nat.sub (qY t 2) 1)) (a (qY t 2)) (ap (Nat.mod t 2) 1)) x (ap t 0)) s
def sT(b:EL)(o:Option (Option EB))(x:Option EB)(fuel:Nat):Nat->EL:=Nat.rec (motive:=fun _=>Nat->EL) (fun _=>b) (fun _ ih t=>Bool.rec (Bool.rec (.n o b (ih (Nat.sub (qY t 2) 1))) (.n o (ih (qY t 2)) b) (ap (Nat.mod t 2) 1)) (.n (some x) b b) (ap t 0)) fuel
def sU(s:EL)(i:Nat)(x:Option EB):EL:=EL.rec (motive:=fun _=>Nat->EL) (fun t=>sT .e ab x (Nat.succ t) t) (fun t=>sT .d (some ab) x (Nat.succ t) t) (fun y l r a b t=>Bool.rec (Bool.rec (.n y l (b (Nat.sub (qY t 2) 1))) (.n y (a (qY t 2)) r) (ap (Nat.mod t 2) 1)) (.n (some x) l r) (ap t 0)) s i
def ym(a b:α)(p q:Nat):Bool.rec (motive:=fun _=>α) a b (ap p q)=if p=q then b else a:=by
 by_cases h:p=q
 .subst h;rw[ah rfl,Nat.beq_refl]
 .rw[af h]
  cases e:ap p q with
  | true=>exact absurd (ak e) h
  | false=>rfl
def Ac(i:Nat):eW .e i=ab:=rfl
def H7(i:Nat):eW .d i=some ab:=rfl
def kl(x:Option (Option EB))(l r:EL)(t:Nat):eW (.n x l r) t=if t=0 then x else if t%2=1 then eW l (t/2)else eW r (t/2-1):=by
 show Bool.rec (motive:=fun _=>Option (Option EB)) (Bool.rec (motive:=fun _=>Option (Option EB)) (eW r (t/2-1)) (eW l (t/2)) (ap (t%2) 1)) x (ap t 0)=_;rw[ym,ym]
def P4(b:EL)(o:Option (Option EB))(x:Option EB)(f t:Nat):sT b o x (f+1) t=if t=0 then .n (some x) b b else if t%2=1 then .n o (sT b o x f (t/2)) b else .n o b (sT b o x f (t/2-1)):=by
 show Bool.rec (motive:=fun _=>EL) (Bool.rec (motive:=fun _=>EL) (.n o b (sT b o x f (t/2-1))) (.n o (sT b o x f (t/2)) b) (ap (t%2) 1)) (.n (some x) b b) (ap t 0)=_;rw[ym,ym]
def ins_e(i:Nat)(x:Option EB):sU .e i x=sT .e ab x (i+1) i:=rfl
def ins_d(i:Nat)(x:Option EB):sU .d i x=sT .d (some ab) x (i+1) i:=rfl
def ins_n(y:Option (Option EB))(l r:EL)(t:Nat)(x:Option EB):sU (.n y l r) t x=if t=0 then .n (some x) l r else if t%2=1 then .n y (sU l (t/2) x) r else .n y l (sU r (t/2-1) x):=by
 show Bool.rec (motive:=fun _=>EL) (Bool.rec (motive:=fun _=>EL) (.n y l (sU r (t/2-1) x)) (.n y (sU l (t/2) x) r) (ap (t%2) 1)) (.n (some x) l r) (ap t 0)=_;rw[ym,ym]
def TP(h:i≠j):ap i j=false:=by
 cases e:ap i j with
 | true=>exact absurd (ak e) h
 | false=>rfl
def yM{t:Nat}(a:t≠0)(b:j≠0)(h:j≠t):(t%2=1->j%2=1->j/2≠t/2)/\(t%2≠1->j%2≠1->j/2-1≠t/2-1):=by
 constructor<;>intro c d<;>omega
theorem mq{b:EL}{o:Option (Option EB)}(a:∀j,eW b j=o){x:Option EB}:∀(f t:Nat),t<f->∀j,eW (sT b o x f t) j=if j=t then some x else o
 | 0,t,h,_=>om
 | f+1,t,h,j=>by
  rw[P4];by_cases c:t=0
  .subst c;rw[ah rfl,kl,a,a];by_cases e:j=0
   .rw[ah e,ah e]
   .rw[af e,af e];split<;>rfl
  .rw[af c];by_cases g:j=0
   .subst g;rw[af (show ¬(0=t)from fun e=>c e.symm)];split<;>rw[kl,ah rfl]
   .by_cases e:j=t
    .subst e;rw[ah rfl];split
     .rename_i d;rw[kl,af c,ah d,mq a f _ om,ah rfl]
     .rename_i d;rw[kl,af c,af d,mq a f _ om,ah rfl]
    .obtain⟨d,l⟩:=yM c g e;rw[af e];split
     .rename_i i;rw[kl,af g,a];split
      .rename_i k;rw[mq a f _ om,af (d i k)]
      .rfl
     .rename_i i;rw[kl,af g,a];split
      .rfl
      .rename_i k;rw[mq a f _ om,af (l i k)]
theorem fW:∀(l:EL) (i:Nat) (x:Option EB) (j:Nat),eW (sU l i x) j=if j=i then some x else eW l j
 | .e,i,x,j=>by rw[ins_e,mq Ac _ _ om,Ac]
 | .d,i,x,j=>by rw[ins_d,mq H7 _ _ om,H7]
 | .n y l r,t,x,j=>by
  rw[ins_n];by_cases a:t=0
  .subst a;rw[ah rfl,kl,kl];by_cases e:j=0
   .rw[ah e,ah e]
   .rw[af e,af e,af e]
  .rw[af a];by_cases b:j=0
   .subst b;rw[af (show ¬(0=t)from fun e=>a e.symm),kl,ah rfl];split<;>rw[kl,ah rfl]
   .by_cases e:j=t
    .subst e;rw[ah rfl];split
     .rename_i c;rw[kl,af a,ah c,fW,ah rfl]
     .rename_i c;rw[kl,af a,af c,fW,ah rfl]
    .obtain⟨c,h⟩:=yM a b e;rw[af e];split
     .rename_i f;rw[kl,kl,af b,af b];split
      .rename_i g;rw[fW,af (c f g)]
      .rfl
     .rename_i f;rw[kl,kl,af b,af b];split
      .rfl
      .rename_i g;rw[fW,af (h f g)]
structure MR(φ:Ph)(l:EL)(S:St):Prop where
 dom:∀i,eW l i=ab->φ i=ab
 live:∀i X,eW l i=some (some X)->∃b g,φ i=some b/\S b=some ⟨X.ty,X.es,X.l.length,g⟩/\l0 φ X.l g 0
 inj:∀i j X Y b,eW l i=some (some X)->eW l j=some (some Y)->φ i=some b->φ j=some b->i=j
def MR.new(h:MR φ l S){nx b:Nat}(r:eW l nx=ab)(p:S b=ab){ty es:Nat}{L:List XV}{g:Nat->AV}(s:l0 φ L g 0){n:Nat}(t:n=L.length) :
  φ.le (φ.set nx b)/\MR (φ.set nx b) (sU l nx (some ⟨ty,es,L⟩)) (S.upd b ⟨ty,es,n,g⟩):=by
 subst t;have d:φ.le (φ.set nx b):=Ph.le_set (h.dom nx r);refine⟨d,fun i a=>?_,fun i X a=>?_,fun i j X Y c a m ei ej=>?_⟩
 .rw[fW]at a;by_cases e:i=nx
  .rw[ah e]at a;cases a
  .rw[af e]at a;unfold Ph.set;rw[af e];exact h.dom i a
 .rw[fW]at a;by_cases e:i=nx
  .rw[ah e]at a;cases a;exact⟨b,g,by unfold Ph.set;rw[ah e],cp,s.mono d⟩
  .rw[af e]at a;obtain⟨c,g',o,k,q⟩:=h.live i X a;refine⟨c,g',d _ _ o,?_,q.mono d⟩;rw[aO (fun f=>by subst f;rw[p]at k;cases k)];exact k
 .rw[fW]at a m;have key:∀i X,i≠nx->eW l i=some (some X)->φ.set nx b i=some b->False:=fun i X e a ei=>by
   unfold Ph.set at ei;rw[af e]at ei;obtain⟨c,g',o,k,q⟩:=h.live i X a;rw[ei]at o;cases o;rw[p]at k;cases k
  by_cases e:i=nx
  .by_cases f:j=nx
   .omega
   .rw[af f]at m;have:c=b:=by unfold Ph.set at ei;rw[ah e]at ei;cases ei;rfl
    subst this;exact(key j Y f m ej).elim
  .rw[af e]at a;by_cases f:j=nx
   .have:c=b:=by unfold Ph.set at ej;rw[ah f]at ej;cases ej;rfl
    subst this;exact(key i X e a ei).elim
   .rw[af f]at m;unfold Ph.set at ei ej;rw[af e]at ei;rw[af f]at ej;exact h.inj i j X Y c a m ei ej
def MR.put(h:MR φ l S){i b:Nat}{X:EB}(f:eW l i=some (some X))(p:φ i=some b){L:List XV}{g:Nat->AV}(q:l0 φ L g 0){n:Nat}(r:n=L.length) :
  MR φ (sU l i (some ⟨X.ty,X.es,L⟩)) (S.upd b ⟨X.ty,X.es,n,g⟩):=by
 subst r;refine⟨fun j a=>?_,fun j Y a=>?_,fun j k Y Z c a m ej ek=>?_⟩
 .rw[fW]at a;by_cases e:j=i
  .rw[ah e]at a;cases a
  .rw[af e]at a;exact h.dom j a
 .rw[fW]at a;by_cases e:j=i
  .rw[ah e]at a;cases a;subst e;exact⟨b,g,p,cp,q⟩
  .rw[af e]at a;obtain⟨c,g',d,o,s⟩:=h.live j Y a;refine⟨c,g',d,?_,s⟩;rw[aO (fun t=>by subst t;exact e (h.inj j i Y X _ a f d p))];exact o
 .rw[fW]at a m;have ej':∃Y',eW l j=some (some Y'):=by
   by_cases e:j=i
   .subst e;exact⟨X,f⟩
   .rw[af e]at a;exact⟨Y,a⟩
  have ek':∃Y',eW l k=some (some Y'):=by
   by_cases e:k=i
   .subst e;exact⟨X,f⟩
   .rw[af e]at m;exact⟨Z,m⟩
  obtain⟨Y',d⟩:=ej';obtain⟨Z',o⟩:=ek';exact h.inj j k Y' Z' c d o ej ek
def MR.move(h:MR φ l S){i b nx b':Nat}{X:EB}(t:eW l i=some (some X))(w:φ i=some b)(u:eW l nx=ab)(o:b'=b∨S b'=ab){ty es:Nat}{L:List XV}{g:Nat->AV}(x:l0 φ L g 0){n:Nat}(y:n=L.length) :
  φ.le (φ.set nx b')/\MR (φ.set nx b') (sU (sU l i ab) nx (some ⟨ty,es,L⟩)) ((S.del b).upd b' ⟨ty,es,n,g⟩):=by
 subst y;have f:φ.le (φ.set nx b'):=Ph.le_set (h.dom nx u);have z:i≠nx:=fun e=>by subst e;rw[t]at u;cases u
 have key:∀j Y,eW (sU l i ab) j=some (some Y)->j≠i/\eW l j=some (some Y):=fun j Y a=>by
  rw[fW]at a;by_cases e:j=i
  .rw[ah e]at a;cases a
  .rw[af e]at a;exact⟨e,a⟩
 have keyb:∀j Y,j≠i->eW l j=some (some Y)->φ j≠some b':=fun j Y e a ej=>by
  rcases o with rfl|o
  .exact e (h.inj j i Y X _ a t ej w)
  .obtain⟨c,g',q,s,_⟩:=h.live j Y a;rw[ej]at q;cases q;rw[o]at s;cases s
 refine⟨f,fun j a=>?_,fun j Y a=>?_,fun j k Y Z c a m ej ek=>?_⟩
 .rw[fW]at a;by_cases e:j=nx
  .rw[ah e]at a;cases a
  .rw[af e,fW]at a;by_cases d:j=i
   .rw[ah d]at a;cases a
   .rw[af d]at a;unfold Ph.set;rw[af e];exact h.dom j a
 .rw[fW]at a;by_cases e:j=nx
  .rw[ah e]at a;cases a;exact⟨b',g,by unfold Ph.set;rw[ah e],cp,x.mono f⟩
  .rw[af e]at a;obtain⟨d,a⟩:=key j Y a;obtain⟨c,g',q,s,A⟩:=h.live j Y a;have v:c≠b:=fun p=>by subst p;exact d (h.inj j i Y X _ a t q w)
   have r:c≠b':=fun p=>by subst p;exact keyb j Y d a q
   refine⟨c,g',f _ _ q,?_,A.mono f⟩;rw[aO r];unfold St.del;rw[af v];exact s
 .rw[fW]at a m;by_cases e:j=nx
  .by_cases d:k=nx
   .omega
   .rw[af d]at m;obtain⟨p,m⟩:=key k Z m;have:c=b':=by unfold Ph.set at ej;rw[ah e]at ej;cases ej;rfl
    subst this;unfold Ph.set at ek;rw[af d]at ek;exact(keyb k Z p m ek).elim
  .rw[af e]at a;obtain⟨p,a⟩:=key j Y a;unfold Ph.set at ej;rw[af e]at ej;by_cases d:k=nx
   .have:c=b':=by unfold Ph.set at ek;rw[ah d]at ek;cases ek;rfl
    subst this;exact(keyb j Y p a ej).elim
   .rw[af d]at m;obtain⟨B,m⟩:=key k Z m;unfold Ph.set at ek;rw[af d]at ek;exact h.inj j k Y Z c a m ej ek
end

end Go.Proofs.YtdobfmlmenaajaaGreatDoor
