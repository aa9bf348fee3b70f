/-
  Lemmas for NeighbourMembers.
-/
import Derived.Test.YtdobfmlmenaajaaGreatDoorN05
namespace Go.Proofs.YtdobfmlmenaajaaGreatDoor
open Go.RowKit
open Below renaming refl→aX,setCell→dr
open Lib renaming hid→ag
open _root_.List renaming take_of_length_le→bF,getElem?_eq_none→cg,getD→cB,length_take→dX
open _root_.Nat renaming le_refl→ah,zero_add→aC,lt_or_ge→aE,mul_comm→aO,pow_succ→cn,mul_add→ct,le_of_lt→dd,mul_assoc→fL,min_eq_left→gf,pow_add→jF,mod_eq_of_lt→jM,div_eq_of_lt→jN,pow_pos→kZ,add_comm→r8
set_option maxHeartbeats 6400000
set_option maxRecDepth 4096
set_option linter.all false
structure Jy(xs ys zs:List Nat)(k car:Nat):Prop where
 len:zs.length=k
 lim:lQ zs
 eq:a9 zs+car*4294967296^k=a9 (xs.take k)+a9 (ys.take k)
 car:car<=1
theorem Jy.step{xs ys zs:List Nat}{k car x y:Nat}(h:Jy xs ys zs k car)(hx:xs.getD k 0=x)(hy:ys.getD k 0=y)(x4:x<4294967296)(y4:y<4294967296) :
  Jy xs ys (zs++[(car+x+y)%4294967296]) (k+1) ((car+x+y)/4294967296):=by
 have hc:=h.car;refine⟨by simp[h.len],h.lim.snoc (Nat.mod_lt _ om),?_,by omega⟩
 rw[fF,h.len,gF,gF,hx,hy,cn];have h1:=oL (x:=x) (y:=y) h.eq;rw[<-Nat.add_assoc]at h1;exact h1
theorem Ie(A B:Option Addr)(n m c d L:Nat)(xs ys:List Nat)(w:World)(hn:n<=2147483648)(hm:m<=2147483648)(hL:L<=w.heap.size)(hx:bX w L A n xs)(hy:bX w L B m ys) :
  Calls Tryz.prog 145 #[.slice A n c,.slice B m d] w (CQ w (a9 xs+a9 ys) (max n m+1)):=by
 have HX:=ag hx;clear hx;have HY:=ag hy;clear hy
 go_enter Tryz.func145,Tryz.ntmps145
 go_wp2
 go_loopw [5,6,7] (fun ov cv iv wr=>∃(k car:Nat) (zs:List Nat),k<=max n m/\iv=.int .i64 k/\cv=.int .u64 car/\car<=1/\Hid (vP w wr ov zs)/\Hid (Jy xs ys zs k car)) (fun _ _ iv _=>max n m-(intOf iv).toNat)
 case atStart=>exact⟨0,0,[],by omega,rfl,rfl,by omega,ag (vP.start w),ag ⟨rfl,by simp[lQ],by simp[a9],by omega⟩⟩
 case round =>
  obtain⟨k,car,zs,hk,rfl,rfl,hcar,HO,HS⟩:=hrel;have hzl:=HS.out.len;have hk0:(0:Int)<=k:=by omega
  by_cases hkn:k<n
  ·obtain⟨ad,x,rfl,hab,hxx,hx4,h1⟩:=(HX.out.below HO.out.2 hL).at_ (k:=k) hkn;have HXX:=ag hxx;clear hxx;have hkn':(k:Int)<n:=by omega
   by_cases hkm:k<m
   ·obtain⟨bd,y,rfl,hbb,hyy,hy4,h2⟩:=(HY.out.below HO.out.2 hL).at_ (k:=k) hkm;have HYY:=ag hyy;clear hyy;have hkm':(k:Int)<m:=by omega
    have HPI:Hid (((car:Int)+(x:Int)+(y:Int))%4294967296=((((car+x+y)%4294967296:Nat)):Int)):=ag om
    go_wp2_with (at_builtin;rw[HPI.out];refine fv rfl _ _ rfl w _ _ zs rfl HO.out ((car+x+y)%4294967296) _ rfl om ?_)
    intro v' w1 hO;have HO1:=ag hO;clear hO;go_wp2
    go_roundw
    case rel=>exact⟨k+1,(car+x+y)/4294967296,_,by omega,by go_num,by go_num,by omega,HO1,ag (HS.out.step HXX.out HYY.out hx4 hy4)⟩
    case measure=>simp[intOf];omega
   ·have hkm':¬(k:Int)<m:=by omega
    have hy0:ys.getD k 0=0:=by simp[cB,cg (show ys.length<=k by rw[HY.out.1];omega)]
    have HY0:=ag hy0;clear hy0;have HPI:Hid (((car:Int)+(x:Int))%4294967296=((((car+x+0)%4294967296:Nat)):Int)):=ag om
    go_wp2_with (at_builtin;rw[HPI.out];refine fv rfl _ _ rfl w _ _ zs rfl HO.out ((car+x+0)%4294967296) _ rfl om ?_)
    intro v' w1 hO;have HO1:=ag hO;clear hO;go_wp2
    go_roundw
    case rel=>exact⟨k+1,(car+x+0)/4294967296,_,by omega,by go_num,by go_num,by omega,HO1,ag (HS.out.step HXX.out HY0.out hx4 om)⟩
    case measure=>simp[intOf];omega
  ·have hkn':¬(k:Int)<n:=by omega
   have hkn2:decide ((k:Int)<n)=false:=by simpa using hkn'
   by_cases hkm:k<m
   ·obtain⟨bd,y,rfl,hbb,hyy,hy4,h2⟩:=(HY.out.below HO.out.2 hL).at_ (k:=k) hkm;have HYY:=ag hyy;clear hyy;have hkm':(k:Int)<m:=by omega
    have hx0:xs.getD k 0=0:=by simp[cB,cg (show xs.length<=k by rw[HX.out.1];omega)]
    have HX0:=ag hx0;clear hx0;have HPI:Hid (((car:Int)+(y:Int))%4294967296=((((car+0+y)%4294967296:Nat)):Int)):=ag om
    go_wp2_with (at_builtin;rw[HPI.out];refine fv rfl _ _ rfl w _ _ zs rfl HO.out ((car+0+y)%4294967296) _ rfl om ?_)
    intro v' w1 hO;have HO1:=ag hO;clear hO;go_wp2
    go_roundw
    case rel=>exact⟨k+1,(car+0+y)/4294967296,_,by omega,by go_num,by go_num,by omega,HO1,ag (HS.out.step HX0.out HYY.out om hy4)⟩
    case measure=>simp[intOf];omega
   ·have hkm':¬(k:Int)<m:=by omega
    have hci:(car:Int)%4294967296=(car:Int):=by omega
    go_wp2_with (at_builtin;refine fv rfl _ _ rfl w _ _ zs rfl HO.out car _ rfl om ?_)
    intro v' w1 hO;obtain⟨A',c',rfl⟩:=hO.slice;obtain⟨hU,hc⟩:=bX.ofOwn hO.1 (HS.out.lim.snoc om);have HU:=ag hU;have HB:=ag hO.2;have hv:a9 (zs++[car])=a9 xs+a9 ys:=by
     have h5:=HS.out.eq;rw[bF (l:=xs) (by rw[HX.out.1];omega),bF (l:=ys) (by rw[HY.out.1];omega)]at h5
     rw[fF,HS.out.len,<-h5,aO]
    have HV:=ag hv;clear hU hO hv;go_wp2;go_ret;exact⟨_,_,_,_,rfl,hc,by simp[hzl];omega,HU.out,HV.out,HB.out⟩
structure vY(xs ys zs:List Nat)(k bo:Nat):Prop where
 len:zs.length=k
 lim:lQ zs
 eq:a9 zs+a9 (ys.take k)=a9 (xs.take k)+bo*4294967296^k
 bo:bo<=1
theorem vY.less{xs ys zs:List Nat}{k bo x y:Nat}(h:vY xs ys zs k bo)(hx:xs.getD k 0=x)(hy:ys.getD k 0=y)(x4:x<4294967296)(y4:y<4294967296)(hl:x<bo+y) :
  vY xs ys (zs++[x+4294967296-(bo+y)]) (k+1) 1:=by
 have hb:=h.bo;refine⟨by simp[h.len],h.lim.snoc om,?_,by omega⟩
 rw[fF,h.len,gF,gF,hx,hy,cn];have h1:=h.eq;obtain⟨z,hz⟩:∃z,x+4294967296-(bo+y)=z:=⟨_,rfl⟩;have h2:z+bo+y=x+4294967296:=by omega
 rw[hz];generalize (4294967296:Nat)^k=p at *;generalize a9 zs=a at *;generalize a9 (ys.take k)=b at *;generalize a9 (xs.take k)=c at *;have h3:p*(z+bo+y)=p*(x+4294967296):=by rw[h2]
 simp only[ct]at h3;rw[aO bo p]at h1;omega
theorem vY.more{xs ys zs:List Nat}{k bo x y:Nat}(h:vY xs ys zs k bo)(hx:xs.getD k 0=x)(hy:ys.getD k 0=y)(x4:x<4294967296)(hl:bo+y<=x) :
  vY xs ys (zs++[x-(bo+y)]) (k+1) 0:=by
 have hb:=h.bo;refine⟨by simp[h.len],h.lim.snoc om,?_,by omega⟩
 rw[fF,h.len,gF,gF,hx,hy,cn];have h1:=h.eq;obtain⟨z,hz⟩:∃z,x-(bo+y)=z:=⟨_,rfl⟩;have h2:z+bo+y=x:=by omega
 rw[hz];generalize (4294967296:Nat)^k=p at *;generalize a9 zs=a at *;generalize a9 (ys.take k)=b at *;generalize a9 (xs.take k)=c at *;have h3:p*(z+bo+y)=p*x:=by rw[h2]
 simp only[ct]at h3;rw[aO bo p]at h1;omega
theorem jA(A B:Option Addr)(n m c d L:Nat)(xs ys:List Nat)(w:World)(hmn:m<=n)(hn:n<=2147483648)(hL:L<=w.heap.size)(hx:bX w L A n xs)(hy:bX w L B m ys)(hle:a9 ys<=a9 xs) :
  Calls Tryz.prog 146 #[.slice A n c,.slice B m d] w (CQ w (a9 xs-a9 ys) n):=by
 have HX:=ag hx;clear hx;have HY:=ag hy;clear hy;have HLE:=ag hle;clear hle
 go_enter Tryz.func146,Tryz.ntmps146
 go_wp2
 go_loopw [5,6,7] (fun ov cv iv wr=>∃(k bo:Nat) (zs:List Nat),k<=n/\iv=.int .i64 k/\cv=.int .u64 bo/\bo<=1/\Hid (vP w wr ov zs)/\Hid (vY xs ys zs k bo)) (fun _ _ iv _=>n-(intOf iv).toNat)
 case atStart=>exact⟨0,0,[],by omega,rfl,rfl,by omega,ag (vP.start w),ag ⟨rfl,by simp[lQ],by simp[a9],by omega⟩⟩
 case round =>
  obtain⟨k,bo,zs,hk,rfl,rfl,hbo,HO,HS⟩:=hrel;have hzl:=HS.out.len;have hk0:(0:Int)<=k:=by omega
  by_cases hkn:k<n
  ·obtain⟨ad,x,rfl,hab,hxx,hx4,h1⟩:=(HX.out.below HO.out.2 hL).at_ (k:=k) hkn;have HXX:=ag hxx;clear hxx;have hkn':(k:Int)<n:=by omega
   by_cases hkm:k<m
   ·obtain⟨bd,y,rfl,hbb,hyy,hy4,h2⟩:=(HY.out.below HO.out.2 hL).at_ (k:=k) hkm;have HYY:=ag hyy;clear hyy;have hkm':(k:Int)<m:=by omega
    by_cases hlt:x<bo+y
    ·have hl2:(x:Int)<(bo:Int)+(y:Int):=by omega
     have HPI:Hid (IntKind.u64.wrap ((x:Int)-((bo:Int)+(y:Int)))%4294967296=(((x+4294967296-(bo+y):Nat)):Int)):=ag (by rw[IntKind.wrap_u64];omega)
     have HPJ:Hid (((x:Int)-((bo:Int)+(y:Int)))%4294967296=(((x+4294967296-(bo+y):Nat)):Int)):=ag om
     go_wp2_with (at_builtin;(first|rw[HPI.out]|rw[HPJ.out]);refine fv rfl _ _ rfl w _ _ zs rfl HO.out (x+4294967296-(bo+y)) _ rfl om ?_)
     intro v' w1 hO;have HO1:=ag hO;clear hO;obtain⟨ad',x',e1,_,e2,_,h1'⟩:=(HX.out.below HO1.out.2 hL).at_ (k:=k) hkn
     cases e1
     rw[HXX.out]at e2;subst e2;go_wp2
     go_roundw
     case rel=>exact⟨k+1,1,_,by omega,by go_num,rfl,by omega,HO1,ag (HS.out.less HXX.out HYY.out hx4 (hy4) hlt)⟩
     case measure=>simp[intOf];omega
    ·have hl2:¬(x:Int)<(bo:Int)+(y:Int):=by omega
     have HPI:Hid (IntKind.u64.wrap ((x:Int)-((bo:Int)+(y:Int)))%4294967296=(((x-(bo+y):Nat)):Int)):=ag (by rw[IntKind.wrap_u64];omega)
     have HPJ:Hid ((x:Int)-((bo:Int)+(y:Int))=(((x-(bo+y):Nat)):Int)):=ag om
     go_wp2_with (at_builtin;(first|rw[HPI.out]|rw[HPJ.out]);refine fv rfl _ _ rfl w _ _ zs rfl HO.out (x-(bo+y)) _ rfl om ?_)
     intro v' w1 hO;have HO1:=ag hO;clear hO;obtain⟨ad',x',e1,_,e2,_,h1'⟩:=(HX.out.below HO1.out.2 hL).at_ (k:=k) hkn
     cases e1
     rw[HXX.out]at e2;subst e2;go_wp2
     go_roundw
     case rel=>exact⟨k+1,0,_,by omega,by go_num,rfl,by omega,HO1,ag (HS.out.more HXX.out HYY.out hx4 om)⟩
     case measure=>simp[intOf];omega
   ·have hkm':¬(k:Int)<m:=by omega
    have hy0:ys.getD k 0=0:=by simp[cB,cg (show ys.length<=k by rw[HY.out.1];omega)]
    have HY0:=ag hy0;clear hy0;by_cases hlt:x<bo+0
    ·have hl2:(x:Int)<(bo:Int):=by omega
     have HPI:Hid (IntKind.u64.wrap ((x:Int)-((bo:Int)))%4294967296=(((x+4294967296-(bo+0):Nat)):Int)):=ag (by rw[IntKind.wrap_u64];omega)
     have HPJ:Hid (((x:Int)-((bo:Int)))%4294967296=(((x+4294967296-(bo+0):Nat)):Int)):=ag om
     go_wp2_with (at_builtin;(first|rw[HPI.out]|rw[HPJ.out]);refine fv rfl _ _ rfl w _ _ zs rfl HO.out (x+4294967296-(bo+0)) _ rfl om ?_)
     intro v' w1 hO;have HO1:=ag hO;clear hO;obtain⟨ad',x',e1,_,e2,_,h1'⟩:=(HX.out.below HO1.out.2 hL).at_ (k:=k) hkn
     cases e1
     rw[HXX.out]at e2;subst e2;go_wp2
     go_roundw
     case rel=>exact⟨k+1,1,_,by omega,by go_num,rfl,by omega,HO1,ag (HS.out.less HXX.out HY0.out hx4 om hlt)⟩
     case measure=>simp[intOf];omega
    ·have hl2:¬(x:Int)<(bo:Int):=by omega
     have HPI:Hid (IntKind.u64.wrap ((x:Int)-((bo:Int)))%4294967296=(((x-(bo+0):Nat)):Int)):=ag (by rw[IntKind.wrap_u64];omega)
     have HPJ:Hid ((x:Int)-((bo:Int))=(((x-(bo+0):Nat)):Int)):=ag om
     go_wp2_with (at_builtin;(first|rw[HPI.out]|rw[HPJ.out]);refine fv rfl _ _ rfl w _ _ zs rfl HO.out (x-(bo+0)) _ rfl om ?_)
     intro v' w1 hO;have HO1:=ag hO;clear hO;obtain⟨ad',x',e1,_,e2,_,h1'⟩:=(HX.out.below HO1.out.2 hL).at_ (k:=k) hkn
     cases e1
     rw[HXX.out]at e2;subst e2;go_wp2
     go_roundw
     case rel=>exact⟨k+1,0,_,by omega,by go_num,rfl,by omega,HO1,ag (HS.out.more HXX.out HY0.out hx4 om)⟩
     case measure=>simp[intOf];omega
  ·have hkn':¬(k:Int)<n:=by omega
   obtain rfl:k=n:=by omega
   obtain⟨A',c',rfl⟩:=HO.out.slice;obtain⟨hU,hc⟩:=bX.ofOwn HO.out.1 HS.out.lim;rw[hzl]at hU hc;have HU:=ag hU;have HB:=ag HO.out.2;have hv:a9 zs=a9 xs-a9 ys:=by
    have h5:=HS.out.eq;rw[bF (l:=xs) (by rw[HX.out.1];omega),bF (l:=ys) (by rw[HY.out.1];omega)]at h5
    have h6:=HLE.out;have h7:=ib HS.out.lim;rw[HS.out.len]at h7;rcases Nat.eq_zero_or_pos bo with h0|h0
    ·subst h0;omega
    ·obtain rfl:bo=1:=by omega
     omega
   have HV:=ag hv;clear hU hv;go_wp2;go_ret;exact⟨_,_,_,_,rfl,hc,by omega,HU.out,HV.out,HB.out⟩
theorem ye(va vb:Value)(za zb:Int)(B:Nat)(w:World)(hB:B<=w.heap.size)(ha:dL w B va za)(hb:dL w B vb zb)(sa:nl za.natAbs<=1073741824)(sb:nl zb.natAbs<=1073741824) :
  Calls Tryz.prog 87 #[va,vb] w (cU w (za+zb)):=by
 obtain⟨s1,A,n,c,xs,rfl,hnc,hx,tx,rfl⟩:=ha;obtain⟨s2,D,m,d,ys,rfl,hmd,hy,ty,rfl⟩:=hb;rw[eC,<-aH hx tx]at sa;rw[eC,<-aH hy ty]at sb;have HX:=ag hx;clear hx;have HY:=ag hy;clear hy;have HTX:=ag tx;clear tx;have HTY:=ag ty;clear ty;have HNX:=ag (aH HX.out HTX.out);have HNY:=ag (aH HY.out HTY.out)
 go_enter Tryz.func87,Tryz.ntmps87
 go_wp2;obtain⟨hb0,k1,k2,k3⟩:=vk w #[Value.bool s1,Value.slice A n c] #[Value.bool s2,Value.slice D m d] #[Value.bool false,Value.slice none 0 0];generalize (((w.alloc (Obj.cells #[Value.bool s1,Value.slice A n c] 50)).alloc (Obj.cells #[Value.bool s2,Value.slice D m d] 50)).alloc (Obj.cells #[Value.bool false,Value.slice none 0 0] 50))=W at hb0 k1 k2 k3 ⊢;obtain⟨a0,a1⟩:=dN k1;obtain⟨b0,b1⟩:=dN k2;have HK3:=ag k3;clear k3 k1 k2;have HB0:=ag hb0;clear hb0;have hg2:w.heap.size+2<W.heap.size:=HK3.out.lt;have HS:=ag (show ∀w1,Below (w.heap.size+2) W w1->(w1.cell? ⟨w.heap.size,0,none⟩=some (.bool s1)/\w1.cell? ⟨w.heap.size,1,none⟩=some (.slice A n c)/\w1.cell? ⟨w.heap.size+1,0,none⟩=some (.bool s2)/\w1.cell? ⟨w.heap.size+1,1,none⟩=some (.slice D m d)/\Below (w.heap.size+2) W w1)from
  fun w1 h=>⟨(h.cell (by show w.heap.size<_;omega)).trans a0,(h.cell (by show w.heap.size<_;omega)).trans a1,(h.cell (by show w.heap.size+1<_;omega)).trans b0,(h.cell (by show w.heap.size+1<_;omega)).trans b1,h⟩)
 go_region_held3 (fun w'=>w'.cell? ⟨w.heap.size,0,none⟩=some (.bool s1)/\w'.cell? ⟨w.heap.size,1,none⟩=some (.slice A n c)/\w'.cell? ⟨w.heap.size+1,0,none⟩=some (.bool s2)/\w'.cell? ⟨w.heap.size+1,1,none⟩=some (.slice D m d)/\Below (w.heap.size+2) W w')
  (first|exact HS.out _ (aX _ _).drew|assumption|exact HS.out _ (by assumption))
  (first
   | (go_at_call_of 71 (Value.slice A n c);refine(eR A n c B xs W.drew hnc om (by show B<=W.heap.size;omega) (HX.out.below HB0.out.drew hB)).mono ?_;rintro e w1 ⟨A1,j1,c1,z1,rfl,hj1,hU1,hT1,hv1,hbn⟩;obtain rfl:n=j1:=by { rw[aH hU1 hT1,hv1];exact HNX.out };have hB1:Below (w.heap.size+2) W w1:=(aX _ W).drew.trans (hbn.mono (by show _<=W.heap.size;omega));have HBa:=ag hbn;clear hbn;have HU1:=ag hU1;clear hU1;have HT1:=ag hT1;clear hT1;have HV1:=ag hv1;clear hv1)
   | (go_at_call_of 71 (Value.slice D m d);refine(eR D m d B ys w1 hmd om (by have:=HBa.out.size;have h2:W.drew.heap.size=W.heap.size:=rfl;omega) (HY.out.below (HB0.out.trans (hB1.mono om)) hB)).mono ?_;rintro e w2 ⟨A2,j2,c2,z2,rfl,hj2,hU2,hT2,hv2,hbn⟩;obtain rfl:m=j2:=by { rw[aH hU2 hT2,hv2];exact HNY.out };have HBb:=ag hbn;clear hbn;have HU2:=ag hU2;clear hU2;have HT2:=ag hT2;clear hT2;have HV2:=ag hv2;clear hv2;have hB2:Below (w.heap.size+2) W w2:=hB1.trans (HBb.out.mono (by have:=hB1.size;omega))))
 have HB2:=ag hB2;clear hB2 hB1;have HU1':Hid (bX w2 w2.heap.size A1 n z1):=ag ((HU1.out.below HBb.out (ah _)).more HBb.out.size);have HKK:Hid (eF w2 (w.heap.size+2) 50 #[.bool false,.slice none 0 0]):=ag ((eF.below (w:=W.drew) HK3.out HBa.out hg2).below HBb.out (by have:=HBa.out.size;have h2:W.drew.heap.size=W.heap.size:=rfl;omega))
 have hz2:w.heap.size+2<w2.heap.size:=HKK.out.lt;obtain⟨c0,c1',c2',c3',_⟩:=HS.out _ HB2.out;clear a0 a1 b0 b1 HU1 HBa HBb;by_cases hs:s1=s2
 ·subst hs;have hbq:(s1==s1)=true:=by simp
  go_wp2
  go_region_held3 (fun w'=>w'.cell? ⟨w.heap.size,0,none⟩=some (.bool s1)/\w'.cell? ⟨w.heap.size,1,none⟩=some (.slice A n c)/\w'.cell? ⟨w.heap.size+1,0,none⟩=some (.bool s1)/\w'.cell? ⟨w.heap.size+1,1,none⟩=some (.slice D m d)/\Below (w.heap.size+2) W w')
   (first|assumption|exact HS.out _ HB2.out.drew|exact HS.out _ (by assumption)|exact HS.out _ (dr (dr (by assumption) (by simp) _) (by simp) _))
   (first
    | (go_at_call 145;refine(Ie A1 A2 n m c1 c2 w2.heap.size z1 z2 w2.drew om om (ah _) HU1'.out HU2.out).mono ?_;rintro e w3 ⟨A3,j3,c3,z3,rfl,hj3,hl3,hU3,hv3,hbn⟩;have hB3:Below (w.heap.size+2) W w3:=HB2.out.drew.trans (hbn.mono (by show _<=w2.heap.size;omega));have HK5:=ag (eF.below (w:=w2.drew) HKK.out hbn hz2);clear hbn;have HU3:=ag hU3;clear hU3;have HV3:=ag hv3;clear hv3;have hz3:=HK5.out.lt)
    | (go_at_call 103;refine(jH s1 A3 j3 c3 w3.heap.size z3 w3 hj3 om (ah _) HU3.out).mono ?_;rintro e w4 ⟨v,rfl,hI,hbn⟩;obtain⟨neg,A4,n4,c4,z4,rfl,hI2⟩:=hI;have hB4:Below (w.heap.size+2) W w4:=hB3.trans (hbn.mono om);have HI:=ag hI2;clear hI2;have hk3:=HK5.out.below hbn hz3;obtain⟨e0,e1⟩:=dN hk3;have f0:=hk3.frozen 0;have f1:=hk3.frozen 1;have HK4:=ag hk3;clear hk3 hbn))
  go_wp2;exact bodyPost_ret (v:=.agg #[.bool neg,.slice A4 n4 c4]) (by simp[results,Tryz.results87,go_sem,e0,e1]) rfl
   (cU.cell ⟨neg,A4,n4,c4,z4,rfl,HI.out⟩ HK4.out (HB0.out.trans (hB4.mono om)) om (by rw[HV3.out,HV1.out,HV2.out,sA]))
 ·have hbq:(s1==s2)=false:=by simpa using hs
  rcases aE (a9 xs) (a9 ys)with hlt|hge
  ·have HCM:Hid (jC (a9 z1) (a9 z2)=-1):=ag (by rw[HV1.out,HV2.out];exact jB hlt)
   have hjj:n<=m:=by rw[HNX.out,HNY.out];exact eJ (dd hlt)
   have HLE:Hid (a9 z1<=a9 z2):=ag (by rw[HV1.out,HV2.out];omega)
   have HLT:=ag hlt;clear hlt
   go_wp2_with fail
   refine(kd A1 A2 n m c1 c2 w2.heap.size z1 z2 w2 om om HU1'.out HU2.out HT1.out HT2.out).mono ?_;rintro e w5 ⟨rfl,hst⟩;rw[HCM.out];obtain⟨q,rfl⟩:=hst;have HU1q:Hid (bX (w2.drewN q) (w2.drewN q).heap.size A1 n z1):=ag HU1'.out;have HU2q:Hid (bX (w2.drewN q) (w2.drewN q).heap.size A2 m z2):=ag HU2.out;have HKq:Hid (eF (w2.drewN q) (w.heap.size+2) 50 #[.bool false,.slice none 0 0]):=ag HKK.out;have HB2q:Hid (Below (w.heap.size+2) W (w2.drewN q)):=ag (HB2.out.trans ((eH.refl w2).more q |>.below _))
   have hzq:w.heap.size+2<(w2.drewN q).heap.size:=hz2;generalize w2.drewN q=wq at HU1q HU2q HKq HB2q hzq ⊢;obtain⟨q0,q1,q2,q3,_⟩:=HS.out _ HB2q.out;clear HB2 HU1' HKK hz2 c0 c1' c2' c3' HU2;go_wp2
   go_region_held3 (fun w'=>w'.cell? ⟨w.heap.size,0,none⟩=some (.bool s1)/\w'.cell? ⟨w.heap.size,1,none⟩=some (.slice A n c)/\w'.cell? ⟨w.heap.size+1,0,none⟩=some (.bool s2)/\w'.cell? ⟨w.heap.size+1,1,none⟩=some (.slice D m d)/\Below (w.heap.size+2) W w')
    (first|assumption|exact HS.out _ HB2q.out.drew|exact HS.out _ (by assumption)|exact HS.out _ (dr (dr (by assumption) (by simp) _) (by simp) _))
    (first
     | (go_at_call 146;refine(jA A2 A1 m n c2 c1 wq.heap.size z2 z1 wq.drew hjj om (ah _) HU2q.out HU1q.out HLE.out).mono ?_;rintro e w3 ⟨A3,j3,c3,z3,rfl,hj3,hl3,hU3,hv3,hbn⟩;have hB3:Below (w.heap.size+2) W w3:=HB2q.out.drew.trans (hbn.mono (by show _<=wq.heap.size;omega));have HK5:=ag (eF.below (w:=wq.drew) HKq.out hbn hzq);clear hbn;have HU3:=ag hU3;clear hU3;have HV3:=ag hv3;clear hv3;have hz3:=HK5.out.lt)
     | (go_at_call 103;refine(jH s2 A3 j3 c3 w3.heap.size z3 w3 hj3 om (ah _) HU3.out).mono ?_;rintro e w4 ⟨v,rfl,hI,hbn⟩;obtain⟨neg,A4,n4,c4,z4,rfl,hI2⟩:=hI;have hB4:Below (w.heap.size+2) W w4:=hB3.trans (hbn.mono om);have HI:=ag hI2;clear hI2;have hk3:=HK5.out.below hbn hz3;obtain⟨e0,e1⟩:=dN hk3;have f0:=hk3.frozen 0;have f1:=hk3.frozen 1;have HK4:=ag hk3;clear hk3 hbn))
   go_wp2;exact bodyPost_ret (v:=.agg #[.bool neg,.slice A4 n4 c4]) (by simp[results,Tryz.results87,go_sem,e0,e1]) rfl
    (cU.cell ⟨neg,A4,n4,c4,z4,rfl,HI.out⟩ HK4.out (HB0.out.trans (hB4.mono om)) om (by rw[HV3.out,HV1.out,HV2.out];exact xt hs (dd HLT.out)))
  ·have HCM:Hid (0<=jC (a9 z1) (a9 z2)):=ag (by
    rw[HV1.out,HV2.out];rcases aE (a9 ys) (a9 xs)with h|h
    ·rw[jk h];omega
    ·rw[kz om];omega)
   have hjj:m<=n:=by rw[HNX.out,HNY.out];exact eJ hge
   have HLE:Hid (a9 z2<=a9 z1):=ag (by rw[HV1.out,HV2.out];omega)
   have HGE:=ag hge;clear hge
   go_wp2_with fail
   refine(kd A1 A2 n m c1 c2 w2.heap.size z1 z2 w2 om om HU1'.out HU2.out HT1.out HT2.out).mono ?_;rintro e w5 ⟨rfl,hst⟩;have hcm:=HCM.out;have hcm2:=(ny (a9 z1) (a9 z2)).2;generalize jC (a9 z1) (a9 z2)=cm at hcm hcm2 ⊢;obtain⟨q,rfl⟩:=hst;have HU1q:Hid (bX (w2.drewN q) (w2.drewN q).heap.size A1 n z1):=ag HU1'.out;have HU2q:Hid (bX (w2.drewN q) (w2.drewN q).heap.size A2 m z2):=ag HU2.out;have HKq:Hid (eF (w2.drewN q) (w.heap.size+2) 50 #[.bool false,.slice none 0 0]):=ag HKK.out;have HB2q:Hid (Below (w.heap.size+2) W (w2.drewN q)):=ag (HB2.out.trans ((eH.refl w2).more q |>.below _))
   have hzq:w.heap.size+2<(w2.drewN q).heap.size:=hz2;generalize w2.drewN q=wq at HU1q HU2q HKq HB2q hzq ⊢;obtain⟨q0,q1,q2,q3,_⟩:=HS.out _ HB2q.out;clear HB2 HU1' HKK hz2 c0 c1' c2' c3' HU2;go_wp2
   go_region_held3 (fun w'=>w'.cell? ⟨w.heap.size,0,none⟩=some (.bool s1)/\w'.cell? ⟨w.heap.size,1,none⟩=some (.slice A n c)/\w'.cell? ⟨w.heap.size+1,0,none⟩=some (.bool s2)/\w'.cell? ⟨w.heap.size+1,1,none⟩=some (.slice D m d)/\Below (w.heap.size+2) W w')
    (first|assumption|exact HS.out _ HB2q.out.drew|exact HS.out _ (by assumption)|exact HS.out _ (dr (dr (by assumption) (by simp) _) (by simp) _))
    (first
     | (go_at_call 146;refine(jA A1 A2 n m c1 c2 wq.heap.size z1 z2 wq.drew hjj om (ah _) HU1q.out HU2q.out HLE.out).mono ?_;rintro e w3 ⟨A3,j3,c3,z3,rfl,hj3,hl3,hU3,hv3,hbn⟩;have hB3:Below (w.heap.size+2) W w3:=HB2q.out.drew.trans (hbn.mono (by show _<=wq.heap.size;omega));have HK5:=ag (eF.below (w:=wq.drew) HKq.out hbn hzq);clear hbn;have HU3:=ag hU3;clear hU3;have HV3:=ag hv3;clear hv3;have hz3:=HK5.out.lt)
     | (go_at_call 103;refine(jH s1 A3 j3 c3 w3.heap.size z3 w3 hj3 om (ah _) HU3.out).mono ?_;rintro e w4 ⟨v,rfl,hI,hbn⟩;obtain⟨neg,A4,n4,c4,z4,rfl,hI2⟩:=hI;have hB4:Below (w.heap.size+2) W w4:=hB3.trans (hbn.mono om);have HI:=ag hI2;clear hI2;have hk3:=HK5.out.below hbn hz3;obtain⟨e0,e1⟩:=dN hk3;have f0:=hk3.frozen 0;have f1:=hk3.frozen 1;have HK4:=ag hk3;clear hk3 hbn))
   go_wp2;exact bodyPost_ret (v:=.agg #[.bool neg,.slice A4 n4 c4]) (by simp[results,Tryz.results87,go_sem,e0,e1]) rfl
    (cU.cell ⟨neg,A4,n4,c4,z4,rfl,HI.out⟩ HK4.out (HB0.out.trans (hB4.mono om)) om (by rw[HV3.out,HV1.out,HV2.out];exact rC hs HGE.out))
theorem E7(va vb:Value)(za zb:Int)(B:Nat)(w:World)(hB:B<=w.heap.size)(ha:dL w B va za)(hb:dL w B vb zb)(sa:nl za.natAbs<=1073741824)(sb:nl zb.natAbs<=1073741824) :
  Calls Tryz.prog 66 #[va,vb] w (cU w (za-zb)):=by
 have HA:=ag ha;have HBv:=ag hb;have HSA:=ag sa;clear sa;have HSB:=ag sb;clear sb;obtain⟨s1,A,n,c,xs,rfl,hnc,hx,tx,rfl⟩:=ha;obtain⟨s2,D,m,d,ys,rfl,hmd,hy,ty,rfl⟩:=hb;clear hx tx hy ty
 go_enter Tryz.func66,Tryz.ntmps66
 go_wp2;obtain⟨hb0,k1,k2,k3⟩:=vk w #[Value.bool s1,Value.slice A n c] #[Value.bool s2,Value.slice D m d] #[Value.bool false,Value.slice none 0 0];generalize (((w.alloc (Obj.cells #[Value.bool s1,Value.slice A n c] 50)).alloc (Obj.cells #[Value.bool s2,Value.slice D m d] 50)).alloc (Obj.cells #[Value.bool false,Value.slice none 0 0] 50))=W at hb0 k1 k2 k3 ⊢;obtain⟨a0,a1⟩:=dN k1;obtain⟨b0,b1⟩:=dN k2;have HK3:=ag k3;clear k3 k1 k2;have HB0:=ag hb0;clear hb0;have hg2:w.heap.size+2<W.heap.size:=HK3.out.lt;have HS:=ag (show ∀w1,Below (w.heap.size+2) W w1->(w1.cell? ⟨w.heap.size,0,none⟩=some (.bool s1)/\w1.cell? ⟨w.heap.size,1,none⟩=some (.slice A n c)/\w1.cell? ⟨w.heap.size+1,0,none⟩=some (.bool s2)/\w1.cell? ⟨w.heap.size+1,1,none⟩=some (.slice D m d)/\Below (w.heap.size+2) W w1)from
  fun w1 h=>⟨(h.cell (by show w.heap.size<_;omega)).trans a0,(h.cell (by show w.heap.size<_;omega)).trans a1,(h.cell (by show w.heap.size+1<_;omega)).trans b0,(h.cell (by show w.heap.size+1<_;omega)).trans b1,h⟩)
 go_region_held3 (fun w'=>w'.cell? ⟨w.heap.size,0,none⟩=some (.bool s1)/\w'.cell? ⟨w.heap.size,1,none⟩=some (.slice A n c)/\w'.cell? ⟨w.heap.size+1,0,none⟩=some (.bool s2)/\w'.cell? ⟨w.heap.size+1,1,none⟩=some (.slice D m d)/\Below (w.heap.size+2) W w')
  (first|exact HS.out _ (aX _ _).drew|assumption|exact HS.out _ (by assumption)|exact HS.out _ (dr (dr (by assumption) (by simp) _) (by simp) _))
  (first
   | (go_at_call 68;refine(yb _ _ B W.drew (by show B<=W.heap.size;omega) (HBv.out.below HB0.out.drew hB) (by have:=HSB.out;omega)).mono ?_;rintro e w1 ⟨v,rfl,hI1,hbn⟩;have HI1:=ag hI1;clear hI1;have hB1:Below (w.heap.size+2) W w1:=(aX _ W).drew.trans (hbn.mono (by show _<=W.heap.size;omega));have HK2:=ag (eF.below (w:=W.drew) HK3.out hbn hg2);clear hbn;have hsz:=HK2.out.lt)
   | (go_at_call 87;refine(ye _ _ _ _ w1.heap.size w1 (ah _) ((HA.out.below (HB0.out.trans (hB1.mono om)) hB).more om) HI1.out HSA.out (by rw[Int.natAbs_neg];exact HSB.out)).mono ?_;rintro e w2 ⟨v,rfl,hI,hbn⟩;obtain⟨neg,A2,n2,c2,zs2,rfl,hI2⟩:=hI;have hB2:Below (w.heap.size+2) W w2:=hB1.trans (hbn.mono om);have HI:=ag hI2;clear hI2;have hk3:=HK2.out.below hbn hsz;obtain⟨e0,e1⟩:=dN hk3;have f0:=hk3.frozen 0;have f1:=hk3.frozen 1;have HK4:=ag hk3;clear hk3 hbn))
 go_wp2;exact bodyPost_ret (v:=.agg #[.bool neg,.slice A2 n2 c2]) (by simp[results,Tryz.results66,go_sem,e0,e1]) rfl
   (cU.cell ⟨neg,A2,n2,c2,zs2,rfl,HI.out⟩ HK4.out (HB0.out.trans (hB2.mono om)) om om)
theorem Fj(va vb:Value)(za zb:Int)(B:Nat)(w:World)(hB:B<=w.heap.size)(ha:dL w B va za)(hb:dL w B vb zb)(sa:nl za.natAbs<=1073741824)(sb:nl zb.natAbs<=1073741824) :
  Calls Tryz.prog 30 #[va,vb] w fun e w'=>e=.returned (.int .i64 (lJ za zb))/\Below w.heap.size w w':=by
 have hA:=ha;have hBb:=hb;have HS0:=ag sa;have HS1:=ag sb;obtain⟨s1,A,n,c,xs,rfl,hnc,hx,tx,rfl⟩:=ha;obtain⟨s2,D,m,d,ys,rfl,hmd,hy,ty,rfl⟩:=hb;rw[eC,<-aH hx tx]at sa;rw[eC,<-aH hy ty]at sb;have HA:=ag hA;clear hA;have HBb:=ag hBb;clear hBb;have HX:=ag hx;clear hx;have HY:=ag hy;clear hy;have HTX:=ag tx;clear tx;have HTY:=ag ty;clear ty;have HZ:=ag (@uZ (sg s1 (a9 xs)) (sg s2 (a9 ys)));have HZ2:=ag (@xR s1 s2 (a9 xs) (a9 ys));have HP:Hid (-1<=(sg s1 (a9 xs)).sign/\(sg s1 (a9 xs)).sign<=1):=ag (by rcases lC s1 (a9 xs)with h|h|h<;>omega)
 generalize hp:(sg s1 (a9 xs)).sign=p at HZ HZ2 HP;generalize hq:(sg s2 (a9 ys)).sign=q at HZ HZ2;generalize hcz:lJ (sg s1 (a9 xs)) (sg s2 (a9 ys))=r at HZ HZ2 ⊢;have hcr:=ny (a9 xs) (a9 ys);generalize hcm:jC (a9 xs) (a9 ys)=cm at HZ2 hcr;have Hp:=ag hp;clear hp;have Hq:=ag hq;clear hq;have Hcm:=ag hcm;clear hcm;clear hcz
 go_enter Tryz.func30,Tryz.ntmps30
 go_wp2;obtain⟨hb0,k1,k2⟩:=oJ w #[Value.bool s1,Value.slice A n c] #[Value.bool s2,Value.slice D m d];generalize ((w.alloc (Obj.cells #[Value.bool s1,Value.slice A n c] 50)).alloc (Obj.cells #[Value.bool s2,Value.slice D m d] 50))=W at hb0 k1 k2 ⊢;obtain⟨a0,a1⟩:=dN k1;obtain⟨b0,b1⟩:=dN k2;have HB0:=ag hb0;clear hb0;have hg2:w.heap.size+1<W.heap.size:=k2.lt;have hg1:w.heap.size+2<=W.heap.size:=hg2;clear k1 k2;have HS:=ag (show ∀w1,Below (w.heap.size+2) W w1->(w1.cell? ⟨w.heap.size,0,none⟩=some (.bool s1)/\w1.cell? ⟨w.heap.size,1,none⟩=some (.slice A n c)/\w1.cell? ⟨w.heap.size+1,0,none⟩=some (.bool s2)/\w1.cell? ⟨w.heap.size+1,1,none⟩=some (.slice D m d)/\Below (w.heap.size+2) W w1)from
  fun w1 h=>⟨(h.cell (by show w.heap.size<_;omega)).trans a0,(h.cell (by show w.heap.size<_;omega)).trans a1,(h.cell (by show w.heap.size+1<_;omega)).trans b0,(h.cell (by show w.heap.size+1<_;omega)).trans b1,h⟩)
 go_region_held3 (fun w'=>w'.cell? ⟨w.heap.size,0,none⟩=some (.bool s1)/\w'.cell? ⟨w.heap.size,1,none⟩=some (.slice A n c)/\w'.cell? ⟨w.heap.size+1,0,none⟩=some (.bool s2)/\w'.cell? ⟨w.heap.size+1,1,none⟩=some (.slice D m d)/\Below (w.heap.size+2) W w')
  (first|exact HS.out _ (aX _ _).drew|assumption|exact HS.out _ (by assumption))
  (first
   | (go_at_call_of 64 (Value.agg #[Value.bool s1,Value.slice A n c]);refine(pY _ _ B W.drew (by show B<=W.heap.size;omega) (HA.out.below HB0.out.drew hB) (by have:=HS0.out;omega)).mono ?_;rintro e w1 ⟨rfl,hbn⟩;rw[Hp.out];have hB1:Below (w.heap.size+2) W w1:=(aX _ W).drew.trans (hbn.mono hg1);clear hbn)
   | (go_at_call_of 64 (Value.agg #[Value.bool s2,Value.slice D m d]);refine(pY _ _ B w1 (by have:=hB1.size;omega) (HBb.out.below (HB0.out.trans (hB1.mono om)) hB) (by have:=HS1.out;omega)).mono ?_;rintro e w2 ⟨rfl,hbn⟩;rw[Hq.out];have hB2:Below (w.heap.size+2) W w2:=hB1.trans (hbn.mono (by have:=hB1.size;omega));clear hbn hB1))
 have HB2:=ag hB2;obtain⟨c0,c1,c2,c3,_⟩:=HS.out _ hB2;clear hB2 a0 a1 b0 b1;rcases Int.lt_trichotomy p q with hlt|heq|hgt
 ·have HR:=ag (HZ.out.1 hlt);have hne:(p != q)=true:=by simp;omega
  have hne2:¬p=q:=by omega
  go_wp2;go_ret;exact⟨by rw[HR.out];rfl,HB0.out.trans (HB2.out.mono om)⟩
 ·subst heq;have HR:=ag (HZ2.out rfl);have HNX:=ag (aH HX.out HTX.out);have HNY:=ag (aH HY.out HTY.out);have hz2:w.heap.size+2<=w2.heap.size:=by have:=HB2.out.size;omega
  have HC:=ag (show ∀w1,Below (w.heap.size+2) W w1->w1.cell? ⟨w.heap.size,1,none⟩=some (.slice A n c)/\w1.cell? ⟨w.heap.size+1,1,none⟩=some (.slice D m d)/\Below (w.heap.size+2) W w1 from fun w1 h=>⟨(HS.out w1 h).2.1,(HS.out w1 h).2.2.2.1,h⟩);have hp3:p=-1∨p=0∨p=1:=by have:=HP.out;omega
  clear HZ HZ2;rcases hp3 with rfl|rfl|rfl
  all_goals
   go_wp2
   go_region_held3 (fun w'=>w'.cell? ⟨w.heap.size,1,none⟩=some (.slice A n c)/\w'.cell? ⟨w.heap.size+1,1,none⟩=some (.slice D m d)/\Below (w.heap.size+2) W w')
    (first|assumption|exact HC.out _ HB2.out.drew|exact HC.out _ (by assumption))
    (first
     | (go_at_call_of 71 (Value.slice A n c);refine(eR A n c B xs w2.drew hnc om (by show B<=w2.heap.size;omega) (HX.out.below (HB0.out.trans (HB2.out.mono om)).drew hB)).mono ?_;rintro e w3 ⟨A1,j1,c1,z1,rfl,hj1,hU1,hT1,hv1,hbn⟩;obtain rfl:n=j1:=by { rw[aH hU1 hT1,hv1];exact HNX.out };have hB3:Below (w.heap.size+2) W w3:=HB2.out.drew.trans (hbn.mono (by show _<=w2.heap.size;omega));clear hbn;have HU1:=ag hU1;clear hU1;have HT1:=ag hT1;clear hT1;have HV1:=ag hv1;clear hv1)
     | (go_at_call_of 71 (Value.slice D m d);refine(eR D m d B ys w3 hmd om (by have:=hB3.size;omega) (HY.out.below (HB0.out.trans (hB3.mono om)) hB)).mono ?_;rintro e w4 ⟨A2,j2,c2,z2,rfl,hj2,hU2,hT2,hv2,hbn⟩;obtain rfl:m=j2:=by { rw[aH hU2 hT2,hv2];exact HNY.out };have HBb:=ag hbn;clear hbn;have HU2:=ag hU2;clear hU2;have HT2:=ag hT2;clear hT2;have HV2:=ag hv2;clear hv2;have hB4:Below (w.heap.size+2) W w4:=hB3.trans (HBb.out.mono (by have:=hB3.size;omega)))
     | (go_at_call 70;refine(kd A1 A2 n m c1 c2 w4.heap.size z1 z2 w4 om om ((HU1.out.below HBb.out (ah _)).more HBb.out.size) HU2.out HT1.out HT2.out).mono ?_;rintro e w5 ⟨rfl,hst⟩;rw[HV1.out,HV2.out,Hcm.out];have hB5:Below (w.heap.size+2) W w5:=hB4.trans (hst.below _);clear hst))
   go_wp2;go_ret;exact⟨by rw[<-HR.out];first|rfl|(simp;first|done|exact yR om om),HB0.out.trans (hB5.mono om)⟩
 ·have HR:=ag (HZ.out.2 hgt);have hn:¬p<q:=by omega
  have hne:(p != q)=true:=by simp;omega
  have hne2:¬p=q:=by omega
  go_wp2;go_ret;exact⟨by rw[HR.out];rfl,HB0.out.trans (HB2.out.mono om)⟩
theorem ti(A:Option Addr)(n c L:Nat)(xs:List Nat)(w:World)(hn:n<=2)(hx:bX w L A n xs) :
  Calls Tryz.prog 128 #[.slice A n c] w fun e w'=>e=.returned (.int .u64 (a9 xs))/\w=w':=by
 have HX:=ag hx;clear hx
 go_enter Tryz.func128,Tryz.ntmps128
 go_wp2
 go_loop [3,4] (fun v i=>∃k:Nat,k<=n/\i=.int .i64 k/\v=.int .u64 (a9 (xs.take k))) (fun _ i=>n-(intOf i).toNat)
 case atStart=>exact⟨0,Nat.zero_le _,rfl,by simp[a9]⟩
 case round =>
  obtain⟨k,hk,rfl,rfl⟩:=hrel;by_cases hkn:k<n
  ·obtain⟨ad,x,rfl,_,hxx,hx4,h1⟩:=HX.out.at_ hkn;have HXX:=ag hxx;clear hxx;have hv:=ib (HX.out.2.1.take k);have hk2:k=0∨k=1:=by omega
   rcases hk2 with rfl|rfl
   ·simp only[Addr.add,if_pos]at h1;have hn0:(0:Int)<n:=by omega
    go_wp2;refine⟨⟨1,by omega,rfl,?_⟩,by simp[intOf];omega⟩
    have hx1:xs.take 1=[x]:=by
     rw[List.take_succ_eq_append_getElem (by rw[HX.out.1];omega)]
     have:=HXX.out;simp only[cB,List.getElem?_eq_getElem (show 0<xs.length by rw[HX.out.1];omega),Option.getD_some]at this
     simp[this]
    rw[hx1];have h5:=u64_or_nat 0 x om om;simp only[Nat.zero_or]at h5;simpa [a9]using h5
   ·simp only[Addr.add,Nat.one_ne_zero,if_false]at h1;have hn0:(1:Int)<n:=by omega
    go_wp2;refine⟨⟨2,by omega,rfl,?_⟩,by simp[intOf];omega⟩
    rw[de xs 1 (by rw[HX.out.1];omega),HXX.out]
    simp only[dX]at hv;rw[tU (Nat.lt_of_lt_of_le hv (by
     rw[HX.out.1,gf om];omega)) hx4,Nat.pow_one,aO x]
  ·obtain rfl:k=n:=by omega
   have hkk:¬(k:Int)<k:=by omega
   go_wp2;go_ret;exact⟨by rw[bF (by rw[HX.out.1];exact ah _)];rfl,rfl⟩
theorem Fb(va vb:Value)(za zb:Int)(B:Nat)(w:World)(hB:B<=w.heap.size)(ha:dL w B va za)(hb:dL w B vb zb)(sa:nl za.natAbs<=268435456)(sb:nl zb.natAbs<=268435456) :
  Calls Tryz.prog 67 #[va,vb] w (cU w (za*zb)):=by
 obtain⟨s1,A,n,c,xs,rfl,hnc,hx,tx,rfl⟩:=ha;obtain⟨s2,D,m,d,ys,rfl,hmd,hy,ty,rfl⟩:=hb;rw[eC,<-aH hx tx]at sa;rw[eC,<-aH hy ty]at sb;have HX:=ag hx;clear hx;have HY:=ag hy;clear hy;clear tx ty;have hmk:=Ch (n+m) om;rw[Int.natCast_add]at hmk
 go_enter Tryz.func67,Tryz.ntmps67
 go_wp2;clear hmk;obtain⟨hb0,k1,k2,k3⟩:=vk w #[Value.bool s1,Value.slice A n c] #[Value.bool s2,Value.slice D m d] #[Value.bool false,Value.slice none 0 0];have hWs:(((w.alloc (Obj.cells #[Value.bool s1,Value.slice A n c] 50)).alloc (Obj.cells #[Value.bool s2,Value.slice D m d] 50)).alloc (Obj.cells #[Value.bool false,Value.slice none 0 0] 50)).heap.size=w.heap.size+1+1+1:=by simp
 generalize (((w.alloc (Obj.cells #[Value.bool s1,Value.slice A n c] 50)).alloc (Obj.cells #[Value.bool s2,Value.slice D m d] 50)).alloc (Obj.cells #[Value.bool false,Value.slice none 0 0] 50))=W at hb0 k1 k2 k3 hWs ⊢;rw[<-hWs];have HK1:=ag k1;clear k1;have HK2:=ag k2;clear k2;have HK3:=ag k3;clear k3;have HB0:=ag hb0;clear hb0;have hWs2:w.heap.size+3=W.heap.size:=by omega
 have HXW:Hid (bX W B A n xs):=ag (HX.out.below HB0.out hB);have HYW:Hid (bX W B D m ys):=ag (HY.out.below HB0.out hB);have HL:Hid (B<=W.heap.size):=ag om;have HCC:Hid (∀wr,Below W.heap.size W wr->(wr.cell? ⟨w.heap.size,0,none⟩=some (.bool s1)/\wr.cell? ⟨w.heap.size,1,none⟩=some (.slice A n c))/\(wr.cell? ⟨w.heap.size+1,0,none⟩=some (.bool s2)/\wr.cell? ⟨w.heap.size+1,1,none⟩=some (.slice D m d))):=ag (fun wr h=>⟨dN (HK1.out.below h om),dN (HK2.out.below h om)⟩);have HWS:=ag hWs;clear hWs;have HWS2:=ag hWs2;clear hWs2
 go_loopw [22] (fun iv wr=>∃(i:Nat) (ps:List Nat),i<=n/\iv=.int .i64 i/\Hid (fK W wr ps)/\Hid (iW ps xs ys i)) (fun iv _=>n-(intOf iv).toNat)
 case atStart=>exact⟨0,_,by omega,rfl,ag (fK.start W (n+m)),ag (iW.init xs ys (n+m) (by rw[HX.out.1,HY.out.1]))⟩
 case round =>
  obtain⟨i,ps,hi,rfl,HF,HS⟩:=hrel;obtain⟨⟨q0,q1⟩,⟨q2,q3⟩⟩:=HCC.out _ HF.out.1;by_cases hin:i<n
  ·obtain⟨ad,x,rfl,hab,hxx,hx4,hcx⟩:=(HXW.out.below HF.out.1 HL.out).at_ (k:=i) om;have HXX:=ag hxx;clear hxx;have hin':(i:Int)<n:=by omega
   have hi0:(0:Int)<=i:=by omega
   go_wp2
   go_loopw [8,30] (fun cv jv wr'=>∃(j car:Nat) (qs:List Nat),j<=m/\jv=.int .i64 j/\cv=.int .u64 car/\car<4294967296/\Hid (fK W wr' qs)/\Hid (pF ps qs ys x i j car)) (fun _ jv _=>m-(intOf jv).toNat)
   case atStart=>exact⟨0,0,ps,by omega,rfl,rfl,by omega,HF,ag HS.out.start⟩
   case round =>
    clear HF hcx q0 q1 q2 q3;obtain⟨j,car,qs,hj,rfl,rfl,hcar,HG,HI⟩:=hrel;have hql:qs.length=n+m:=by rw[HI.out.len,HS.out.len,HX.out.1,HY.out.1]
    obtain⟨⟨q0,q1⟩,⟨q2,q3⟩⟩:=HCC.out _ HG.out.1;by_cases hjm:j<m
    ·obtain⟨bd,y,rfl,hbb,hyy,hy4,hcy⟩:=(HYW.out.below HG.out.1 HL.out).at_ (k:=j) om;have HYY:=ag hyy;clear hyy;obtain⟨hcp,hfp⟩:=HG.out.at_ (i+j) om;have hp4:=HI.out.lim.getD (i+j);generalize hpp:qs.getD (i+j) 0=p at hcp hp4;have HPP:=ag hpp;clear hpp;obtain⟨z,hz,hz4⟩:∃z:Nat,x*y=z/\z<=18446744065119617025:=⟨_,rfl,oB hx4 hy4⟩;have hzi:(x:Int)*(y:Int)=(z:Int):=by rw[<-hz];simp
     have HZ:=ag hz;clear hz;have hjm':(j:Int)<m:=by omega
     have hj0:(0:Int)<=j:=by omega
     have hij:(i:Int)+j<n+m:=by omega
     have hij0:(0:Int)<=(i:Int)+j:=by omega
     have hIJ:((i:Int)+(j:Int)).toNat=i+j:=by omega
     go_wp2
     go_roundw
     case rel =>
      have h5:=HI.out.step (by rw[HY.out.1];exact hjm) om HYY.out HPP.out hx4 hy4 hp4
      have h6:=HG.out.put (i+j) ((car+(x*y+p))%4294967296);rw[HZ.out]at h5 h6;exact⟨j+1,(car+(z+p))/4294967296,_,by omega,by go_num,by go_num,by omega,ag (by simpa using h6),ag h5⟩
     case measure=>simp[intOf];omega
    ·obtain rfl:j=m:=by omega
     obtain⟨hcp,hfp⟩:=HG.out.at_ (i+j) om;have HN:=ag (HS.out.next HI.out HY.out.1 (by rw[HX.out.1];exact hin) HXX.out)
     have HP:=ag (HG.out.put (i+j) car);have hj0:(0:Int)<=j:=by omega
     have hij:(i:Int)+j<n+j:=by omega
     have hij0:(0:Int)<=(i:Int)+j:=by omega
     have hIJ:((i:Int)+(j:Int)).toNat=i+j:=by omega
     go_wp2
     go_roundw
     case rel=>exact⟨i+1,_,by omega,by go_num,ag (by simpa using HP.out),HN⟩
     case measure=>simp[intOf];omega
  ·obtain rfl:i=n:=by omega
   have hii:¬(i:Int)<i:=by omega
   go_wp2_with fail
   have hl:=HS.out.len;rw[HX.out.1,HY.out.1]at hl;have hU:=bX.ofBlk HF.out.2 HS.out.lim HF.out.2.lt rfl;rw[hl]at hU;have hv:=HS.out.eq;rw[bF (by rw[HX.out.1];exact ah _)]at hv
   have HBn:=ag HF.out.1;have HK:Hid (eF wr (w.heap.size+2) 50 #[.bool false,.slice none 0 0]):=ag (HK3.out.below HBn.out (by have:=HWS2.out;omega))
   have HV:=ag hv;clear hv;have hwr:w.heap.size+3<=wr.heap.size:=by have:=HBn.out.size;have:=HWS2.out;omega
   have HBW:Hid (Below w.heap.size w wr):=ag (HB0.out.trans (HBn.out.mono (by have:=HWS2.out;omega)))
   refine(jH (s1 != s2) _ _ _ _ _ _ (ah _) om (ah _) hU).mono ?_;clear hU hl;rintro e w2 ⟨v,rfl,hI,hb2⟩;obtain⟨neg,A2,n2,c2,zs2,rfl,hI2⟩:=hI;have hblk:eF w2 (w.heap.size+2) 50 #[.bool false,.slice none 0 0]:=eF.below (w:=wr) HK.out hb2 om;obtain⟨e0,e1⟩:=dN hblk;have f0:=hblk.frozen 0;have f1:=hblk.frozen 1;have HK2:=ag hblk;clear hblk;have HI:=ag hI2;clear hI2;have HB2:=ag hb2;clear hb2;go_wp2;exact bodyPost_ret (v:=.agg #[.bool neg,.slice A2 n2 c2]) (by simp[results,Tryz.results67,go_sem,e0,e1]) rfl
    (cU.cell ⟨neg,A2,n2,c2,zs2,rfl,HI.out⟩ HK2.out (HBW.out.trans (HB2.out.mono (by first|omega|(simp;done)|(simp;omega)))) om (by rw[HV.out,FW]))
theorem zC(va:Value)(za:Int)(B:Nat)(w:World)(hB:B<=w.heap.size)(ha:dL w B va za)(hz:kb za) :
  Calls Tryz.prog 72 #[va] w fun e w'=>e=.returned (.tuple #[.int .i64 za,.bool true])/\Below w.heap.size w w':=by
 obtain⟨s1,A,n,c,xs,rfl,hnc,hx,tx,rfl⟩:=ha;obtain⟨hz1,hz2⟩:=hz;have hn:n<=2:=by
  rw[aH hx tx];refine iA.2 ?_;have:(sg s1 (a9 xs)).natAbs=a9 xs:=eC s1 (a9 xs);omega
 have hb0:=(aX w.heap.size w).alloc (ah _) (Obj.cells #[Value.bool s1,Value.slice A n c] 50);have HU:=ag (hx.below hb0 hB);have HN:=ag (aH hx tx);have HX:=ag hx;clear hx;have HTX:=ag tx;clear tx;have HB:=ag hb0;clear hb0;have HK:=ag (eF.new w 50 #[Value.bool s1,Value.slice A n c])
 cases s1
 ·have hv:(sg false (a9 xs))=(a9 xs:Int):=by simp[sg]
  rw[hv]at hz1 hz2 ⊢;clear hv;generalize hvv:a9 xs=v at hz1 hz2 ⊢;have HV:=ag hvv;clear hvv
  go_enter Tryz.func72,Tryz.ntmps72
  go_wp2_with fail
  refine(eR A n c B xs _ hnc om (by simp;omega) HU.out).mono ?_
  rintro e w1 ⟨A1,k,c1,zs,rfl,hk,hU1,hT1,hv1,hb1⟩;have hkn:n=k:=by rw[aH hU1 hT1,hv1];exact HN.out
  subst hkn;have hblk:=HK.out.below hb1 (by simp)
  obtain⟨e0,e1⟩:=dN hblk;have HBB:=ag (HB.out.trans (hb1.mono (by simp)))
  have HU1:=ag hU1;clear hU1;have HV1:=ag hv1;clear hv1;clear hblk hb1 hT1
  go_wp2_with fail
  refine(ti A1 n c1 _ zs _ hn HU1.out).mono ?_;rintro e w' ⟨rfl,rfl⟩;rw[HV1.out,HV.out];have hw:IntKind.i64.wrap (v:Int)=v:=yR om om;have hl:(v:Int)<9223372036854775808:=by omega
  have hn3:¬(2:Int)<n:=by omega
  have hn4:decide ((2:Int)<n)=false:=by simpa using hn3
  clear hn hn3;have Hz1:=ag hz1;clear hz1;have Hz2:=ag hz2;clear hz2;go_wp2;go_ret2;exact⟨rfl,HBB.out⟩
 ·have hv:(sg true (a9 xs))=-(a9 xs:Int):=by simp[sg]
  rw[hv]at hz1 hz2 ⊢;clear hv;generalize hvv:a9 xs=v at hz1 hz2 ⊢;have HV:=ag hvv;clear hvv
  go_enter Tryz.func72,Tryz.ntmps72
  go_wp2_with fail
  refine(eR A n c B xs _ hnc om (by simp;omega) HU.out).mono ?_
  rintro e w1 ⟨A1,k,c1,zs,rfl,hk,hU1,hT1,hv1,hb1⟩;have hkn:n=k:=by rw[aH hU1 hT1,hv1];exact HN.out
  subst hkn;have hblk:=HK.out.below hb1 (by simp)
  obtain⟨e0,e1⟩:=dN hblk;have HBB:=ag (HB.out.trans (hb1.mono (by simp)))
  have HU1:=ag hU1;clear hU1;have HV1:=ag hv1;clear hv1;clear hblk hb1 hT1
  go_wp2_with fail
  refine(ti A1 n c1 _ zs _ hn HU1.out).mono ?_;rintro e w' ⟨rfl,rfl⟩;rw[HV1.out,HV.out];have hw:IntKind.i64.wrap (IntKind.u64.wrap (-(v:Int)))=-(v:Int):=by rw[IntKind.wrap_u64,IntKind.wrap_i64];omega
  have hl:(v:Int)<=9223372036854775808:=by omega
  have Hz1:=ag hz1;clear hz1;have Hz2:=ag hz2;clear hz2;go_wp2;go_ret2;exact⟨rfl,HBB.out⟩
structure Dbl(xs zs:List Nat)(b0 k car:Nat):Prop where
 len:zs.length=k
 lim:lQ zs
 eq:a9 zs+car*4294967296^k=2*a9 (xs.take k)+b0
 car:car<=1
theorem KJ{y c:Nat}(hc:c<=1):2*y ||| c=2*y+c:=by
 have h:=Nat.shiftLeft_add_eq_or_of_lt (i:=1) (b:=c) om y;rw[Nat.shiftLeft_eq]at h;rw[aO 2 y,<-Nat.pow_one 2,<-h]
theorem BR{x c:Nat}(hc:c<=1):bits .or .u32 ((x:Int)*2%4294967296) (c:Int)=((2*x%4294967296+c:Nat):Int):=by
 have h:=u32_or_nat (2*(x%2147483648)) c om om;rw[KJ hc]at h;have e:((x:Int)*2%4294967296)=((2*(x%2147483648):Nat):Int):=by omega
 rw[e];have e2:2*x%4294967296=2*(x%2147483648):=by omega
 rw[e2,<-h]
theorem Dbl.step{xs zs:List Nat}{b0 k car x:Nat}(h:Dbl xs zs b0 k car)(hx:xs.getD k 0=x)(x4:x<4294967296):Dbl xs (zs++[2*x%4294967296+car]) b0 (k+1) (x/2147483648):=by
 have hc:=h.car;refine⟨by simp[h.len],h.lim.snoc om,?_,by omega⟩
 rw[fF,h.len,gF,hx,cn];have h1:=h.eq;have h2:2*x%4294967296+4294967296*(x/2147483648)=2*x:=by omega
 generalize 2*x%4294967296=u at *;generalize x/2147483648=v at *;generalize (4294967296:Nat)^k=p at *;have h3:p*(u+4294967296*v)=p*(2*x):=by rw[h2]
 grind
theorem uX(A:Option Addr)(n c L b0:Nat)(xs:List Nat)(w:World)(hn:n<=2147483648)(hL:L<=w.heap.size)(hx:bX w L A n xs)(hb0:b0<=1) :
  Calls Tryz.prog 237 #[.slice A n c,.int .u32 b0] w (CQ w (2*a9 xs+b0) (n+1)):=by
 have HX:=ag hx;clear hx
 go_enter Tryz.func237,Tryz.ntmps237
 go_wp2
 go_loopw [1,5,10] (fun cv ov iv wr=>∃(k car:Nat) (zs:List Nat),k<=n/\iv=.int .i64 k/\cv=.int .u32 car/\car<=1/\Hid (vP w wr ov zs)/\Hid (Dbl xs zs b0 k car)) (fun _ _ iv _=>n-(intOf iv).toNat)
 case atStart=>exact⟨0,b0,[],by omega,rfl,rfl,by omega,ag (vP.start w),ag ⟨rfl,by simp[lQ],by simp[a9],by omega⟩⟩
 case round =>
  obtain⟨k,car,zs,hk,rfl,rfl,hcar,HO,HS⟩:=hrel;have hzl:=HS.out.len;have hk0:(0:Int)<=k:=by omega
  by_cases hkn:k<n
  ·obtain⟨ad,x,rfl,hab,hxx,hx4,h1⟩:=(HX.out.below HO.out.2 hL).at_ (k:=k) hkn;have HXX:=ag hxx;clear hxx;have hkn':(k:Int)<n:=by omega
   have HPI:Hid (bits .or .u32 ((x:Int)*2%4294967296) (car:Int)=((2*x%4294967296+car:Nat):Int)):=ag (BR hcar)
   go_wp2_with (at_builtin;rw[HPI.out];refine fv rfl _ _ rfl w _ _ zs rfl HO.out (2*x%4294967296+car) _ rfl om ?_)
   intro v' w1 hO;have HO1:=ag hO;clear hO;go_wp2
   go_roundw
   case rel=>exact⟨k+1,x/2147483648,_,by omega,by go_num,by go_num,by omega,HO1,ag (HS.out.step HXX.out hx4)⟩
   case measure=>simp[intOf];omega
  ·have hkn':¬(k:Int)<n:=by omega
   go_wp2_with (at_builtin;refine fv rfl _ _ rfl w _ _ zs rfl HO.out car _ rfl om ?_)
   intro v' w1 hO;obtain⟨A',c',rfl⟩:=hO.slice;obtain⟨hU,hc⟩:=bX.ofOwn hO.1 (HS.out.lim.snoc om);have HU:=ag hU;have HB:=ag hO.2;have hv:a9 (zs++[car])=2*a9 xs+b0:=by
    have h5:=HS.out.eq;rw[bF (l:=xs) (by rw[HX.out.1];omega)]at h5
    rw[fF,HS.out.len,<-h5,aO]
   have HV:=ag hv;clear hU hO hv;go_wp2;go_ret;exact⟨_,_,_,_,rfl,hc,by simp[hzl];omega,HU.out,HV.out,HB.out⟩
theorem AL{l:List Nat}(h:lQ l)(j:Nat)(hj:j<l.length):l.getD j 0=a9 l/4294967296^j%4294967296:=by
 have h1:=ro l j hj;have h2:a9 (l.take j)<4294967296^j:=by
  have h3:=ib (h.take j)
  rwa [dX,gf om]at h3
 have h4:=h.getD j;rw[h1,Nat.add_mul_div_left _ _ (kZ om),jN h2,aC,Nat.add_mul_mod_self_left,jM h4]
theorem Jj(a s:Nat)(hs:s<32):a%4294967296/2^s%2=a/2^s%2:=by
 have h:=Nat.testBit_mod_two_pow a 32 s;simp only[Nat.testBit_eq_decide_div_mod_eq,hs,decide_true,Bool.true_and]at h;have h1:(2:Nat)^32=4294967296:=by decide
 rw[h1]at h;have h2:=Nat.mod_two_eq_zero_or_one (a%4294967296/2^s);have h3:=Nat.mod_two_eq_zero_or_one (a/2^s);rcases h2 with h2|h2<;>rcases h3 with h3|h3<;>simp[h2,h3]at h ⊢
theorem DN{l:List Nat}(h:lQ l)(i:Nat)(hi:i<32*l.length):l.getD (i/32) 0/2^(i%32)%2=a9 l/2^i%2:=by
 rw[AL h (i/32) om,Jj _ _ om,Nat.div_div_eq_div_mul,uj,<-jF];congr 3;omega
structure rj(V D Q R i:Nat):Prop where
 eq:V/2^i=Q*D+R
 lt:R<D
theorem rj.dig{V D Q R i:Nat}(h:rj V D Q R (i+1)):V/2^i=2*(Q*D)+(2*R+V/2^i%2):=by
 have h1:=h.eq;rw[cn,<-Nat.div_div_eq_div_mul]at h1;omega
theorem rj.more{V D Q R i:Nat}(h:rj V D Q R (i+1))(hl:D<=2*R+V/2^i%2):rj V D (2*Q+1) (2*R+V/2^i%2-D) i:=by
 have h1:=h.dig;have h2:=h.lt;refine⟨?_,by omega⟩
 have h3:(2*Q+1)*D=2*(Q*D)+D:=by grind
 omega
theorem rj.less{V D Q R i:Nat}(h:rj V D Q R (i+1))(hl:2*R+V/2^i%2<D):rj V D (2*Q) (2*R+V/2^i%2) i:=by
 have h1:=h.dig;refine⟨?_,hl⟩;have h3:(2*Q)*D=2*(Q*D):=by grind
 omega
theorem rj.done{V D Q R:Nat}(h:rj V D Q R 0):Q=V/D/\R=V%D:=by
 have h1:=h.eq;have h2:=h.lt;simp only[Nat.pow_zero,Nat.div_one]at h1;rw[h1];refine⟨?_,?_⟩
 ·rw[r8,Nat.add_mul_div_right _ _ om,jN h2,aC]
 ·rw[r8,Nat.add_mul_mod_self_right,jM h2]
theorem KI{a s:Nat}(h:2^(s+1)∣a):a ||| 2^s=a+2^s:=by
 obtain⟨c,rfl⟩:=h;have h1:=Nat.shiftLeft_add_eq_or_of_lt (i:=s+1) (b:=2^s) (Nat.pow_lt_pow_right om om) c;rw[Nat.shiftLeft_eq,aO c]at h1;exact h1.symm
theorem De{ps:List Nat}(hl:lQ ps){Q i:Nat}(hi:i<32*ps.length)(hv:a9 ps=Q*2^(i+1)) :
  ps.getD (i/32) 0 ||| 2^(i%32)=ps.getD (i/32) 0+2^(i%32)/\ps.getD (i/32) 0+2^(i%32)<4294967296/\a9 (ps.set (i/32) (ps.getD (i/32) 0+2^(i%32)))=(2*Q+1)*2^i:=by
 have h1:=AL hl (i/32) om;have e1:i+1=32*(i/32)+(i%32+1):=by omega
 have h2:a9 ps/4294967296^(i/32)=Q*2^(i%32+1):=by
  rw[hv,uj]
  conv=>lhs;rw[e1,jF,<-fL,aO Q,fL]
  rw[Nat.mul_div_cancel_left _ (kZ om)]
 have h3:2^(i%32+1)∣4294967296:=⟨2^(31-i%32),by rw[<-jF,show i%32+1+(31-i%32)=32 by omega]⟩
 have h4:2^(i%32+1)∣ps.getD (i/32) 0:=by
  rw[h1,h2];exact(Nat.dvd_mod_iff h3).2 (Nat.dvd_mul_left _ _)
 have h5:=hl.getD (i/32);refine⟨KI h4,?_,?_⟩
 ·obtain⟨c,hc⟩:=h4;obtain⟨d,hd⟩:=h3;rw[hc]at h5 ⊢;rw[hd]at h5 ⊢;have h6:c<d:=Nat.lt_of_mul_lt_mul_left h5;have h7:2^(i%32+1)*(c+1)<=2^(i%32+1)*d:=Nat.mul_le_mul_left _ h6;have h8:0<2^(i%32):=kZ om;have h9:2^(i%32+1)=2*2^(i%32):=by rw[cn];omega
  rw[ct,Nat.mul_one]at h7;omega
 ·have h6:=yl ps (i/32) (ps.getD (i/32) 0+2^(i%32)) om;have h7:2^(i%32)*4294967296^(i/32)=2^i:=by
   rw[uj,<-jF];congr 1;omega
  rw[Nat.add_mul,h7,hv,cn]at h6;have h8:(2*Q+1)*2^i=Q*(2^i*2)+2^i:=by grind
  omega
def JB(w:World)(v:Nat)(e:Ending)(w':World):Prop :=
 ∃(A:Option Addr) (n c:Nat) (zs:List Nat),e=.returned (.slice A n c)/\n<=c/\bX w' w'.heap.size A n zs/\ob zs/\a9 zs=v/\Below w.heap.size w w'/\∀ad,A=some ad->w.heap.size<=ad.block
theorem Dv{w':World}{B:Nat}{e:TypeId}{size:Nat}{A:Option Addr}{m c:Nat}{cs:List Value}(h:w'.ownsRow B e size (.slice A m c) m cs):∀ad,A=some ad->B<=ad.block:=by
 intro ad hA;subst hA;rcases h.2 with⟨h1,_⟩|⟨g,cap,cur,h2,h1,_⟩
 ·cases h1
 ·cases h2;exact h1
theorem tY(A:Option Addr)(n c B:Nat)(xs:List Nat)(w:World)(hn:n<=c)(hm:n<=2147483648)(hB:B<=w.heap.size)(h:bX w B A n xs) :
  Calls Tryz.prog 71 #[.slice A n c] w (JB w (a9 xs)):=by
 have HH:=ag h;clear h
 go_enter Tryz.func71,Tryz.ntmps71
 go_wp2
 go_loop [3] (fun s=>∃k:Nat,k<=n/\s=.int .i64 k/\Hid (∀j,k<=j->xs.getD j 0=0)) (fun s=>(intOf s).toNat)
 case atStart=>exact⟨n,ah _,rfl,ag (fun j hj=>by simp[cB,cg (show xs.length<=j by rw[HH.out.1];exact hj)])⟩
 case round =>
  obtain⟨k,hk,rfl,hz⟩:=hrel;by_cases h0:k=0
  ·subst h0
   go_wp2_with (at_builtin;refine hJ _ rfl _ _ 48 rfl 136 Tryz.t136 (.int .u32 0) 1 4 Tryz.underlying48 Cl BF B2 CC rfl om rfl A 0 c [] rfl rfl (fun h=>absurd h om) (by simp) (by simp) (by simp) ?_)
   intro A' c' w1 hown hgrow;have HN:=ag (Dv hown);obtain⟨hU,hc⟩:=bX.ofOwn (xs:=[]) hown (by simp[lQ])
   have HU:=ag hU;have HB:=ag (iJ hgrow (B:=w.heap.size) (ah _) (by intro g h;cases h))
   have HV:=ag (lm 0 xs hz.out);clear hU hown hgrow hz;go_wp2;go_ret;exact⟨_,_,_,_,rfl,hc,HU.out,uB,by rw[HV.out];rfl,HB.out,HN.out⟩
  ·obtain⟨m,rfl⟩:∃m,k=m+1:=⟨k-1,by omega⟩
   obtain⟨ad,x,rfl,_,hx',_,hx⟩:=HH.out.at_ (k:=m) om;have HX:=ag hx';clear hx';by_cases hx0:x=0
   ·subst hx0;go_wp2;refine⟨⟨m,by omega,by go_num,ag fun j hj=>?_⟩,by simp[intOf]⟩
    rcases aE m j with h|h
    ·exact hz.out j h
    ·obtain rfl:j=m:=by omega
     exact HX.out
   ·have hb1:((x:Int)==0)=false:=by simp;omega
    have HT:=HH.out.take hk;have HTT:=ag HT;clear HT
    go_wp2_with (at_builtin;refine hJ _ rfl _ _ 48 rfl 136 Tryz.t136 (.int .u32 0) 1 4 Tryz.underlying48 Cl BF B2 CC rfl om rfl (some ad) (m+1) c (ir (xs.take (m+1))) rfl (by simp[ir];rw[HH.out.1];omega) (HTT.out.src) (qw _) (by simp[maxLen];omega) om ?_)
    intro A' c' w1 hown hgrow;have HN:=ag (Dv hown);obtain⟨hU,hc⟩:=bX.ofOwn hown (HH.out.2.1.take _);have HU:=ag hU;have HB:=ag (iJ hgrow (B:=w.heap.size) (ah _) (by intro g h;cases h))
    have HV:=ag (lm (m+1) xs hz.out);have HTP:Hid (ob (xs.take (m+1))):=ag (qg (fun _=>by rw[Nat.add_sub_cancel,HX.out];exact hx0) (by rw[HH.out.1];exact hk))
    clear hU hown hgrow hz;go_wp2;go_ret;exact⟨_,_,_,_,rfl,hc,HU.out,HTP.out,HV.out.symm,HB.out,HN.out⟩
end Go.Proofs.YtdobfmlmenaajaaGreatDoor
