/-
  Lemmas for NeighbourKeeps.
-/
import Derived.Test.YtdobfmlmenaajaaGreatDoorL03
namespace Go.Proofs.YtdobfmlmenaajaaGreatDoor
open Go.RowKit Tryz
open Below renaming refl→bq
open Lib renaming hid→ab
open _root_.List renaming drop_of_length_le→gF
open _root_.Nat renaming le_refl→af,eq_zero_or_pos→bC
open Tryz renaming prog→ah
open Value renaming slice→aj,bool→ao,int→c8
set_option maxHeartbeats 6400000
set_option maxRecDepth 4096
set_option linter.all false
variable{a:Act}{ops:Array Oper}{Q:Exit->Act->World->Prop}{xs:List Nat}{rest:List Oper}{B n:Nat}{o:Oper}{A:Option Addr}{w:World}
section
variable {P:Program} (w:World)
theorem vA(t ty e:TypeId)(i:TypeInfo)(a:P.underlying t=some (.slice e))(b:P.info? e=some i)(A:Option Addr)(c:Nat) :
  (Builtin.append_ #[t,t] ty #[.slice none 0 0,.slice A 0 c]).run P w=.ok (.slice none 0 0) w:=by
 cases A<;>simp[Builtin.append_,run_underlying a,sizeOf,typeInfo,b,Builtin.lenOf,Builtin.firstCells,loadCells,loadCellsFrom]
theorem iU(d:o.guard=none)(s x:Operand)(t:TypeId)
  (p:o.op=.call { callee:=.builtin .append,args:=#[s,x],argTypes:=#[t,t] })
  (e:TypeId) (i:TypeInfo) (z:Value) (size bytes:Nat) (q:P.underlying t=some (.slice e)) (r:P.info? e=some i) (D:i.zero=some z)
  (hsize:i.size=size) (f:i.bytes=bytes) (k:z.cells.size=size) (l:0<size)
  (v:a.eval s=.slice none 0 0)
  (A:Option Addr) (m c:Nat) (news:List Value) (y:a.eval x=.slice A m c) (B:news.length=m*size) (hnews:0<m->∃ad,A=some ad/\∀j u,news[j]? = some u->w.cell? (ad.add j)=some u) (E:∀u∈news,u.oneCell'=true)
  (F:m<=maxLen) (hbytes:m*bytes<=140737488355328)
  (h:∀A' c' w',w'.ownsRow w.heap.size e size (.slice A' m c') m news->w.grownBy w' none->wpList P ops Q rest (a.put o.dst (.slice A' m c')) w') :
  wpList P ops Q (o::rest) a w:=by
 rcases bC m with n|n
 ·subst n;have G:news=[]:=List.eq_nil_of_length_eq_zero (by simpa using B)
  subst G;refine wpList_plain d fun K H=>?_;unfold Oper.wp execOp;simp only[p,resolve,invoke,builtin,Sem.run_bind,Sem.run_pure,Result.andThen_ok,List.map_toArray,List.map_cons,List.map_nil,v,y,vA w t o.type e i q r A c];exact H _ _ (h none 0 w (World.ownsRow_nil w _ e size) ⟨rfl,rfl,rfl,af _,fun _ _ _=>rfl⟩)
 ·obtain⟨ad,rfl,I⟩:=hnews n;refine wpList_append_own_at w d s x t p w.heap.size e i z size bytes q r D hsize f k l (.slice none 0 0) 0 [] v (World.ownsRow_nil w _ e size) ad m c news y B I E om (by simpa using hbytes) (af _) ?_
  intro v' w' b hgrow C _;rw[Nat.zero_add,List.nil_append]at b;obtain⟨A',c',rfl⟩:∃A' c',v'=.slice A' m c':=by
   rcases b.2 with⟨h,J⟩|⟨g,cap,_,h,_⟩
   ·omega
   ·exact⟨_,_,h⟩
  exact h A' c' w' b hgrow
end
def jh(xs:List Nat):List Value:=xs.map (fun x:Nat=>c8 .u32 x)
theorem sD(xs:List Nat):∀u∈jh xs,u.oneCell'=true:=by
 intro u a;simp only[jh,List.mem_map]at a;obtain⟨x,_,rfl⟩:=a;rfl
theorem cj.src(h:cj w B A n xs):0<n->∃ad,A=some ad/\∀j u,(jh xs)[j]? = some u->w.cell? (ad.add j)=some u:=by
 intro a;obtain⟨ad,rfl,_⟩:=h.2.2 a;exact⟨ad,rfl,h.cells⟩
theorem fH(A:Option Addr)(n c B:Nat)(xs:List Nat)(w:World)(hn:n<=c)(hm:n<=2147483648)(hB:B<=w.heap.size)(h:cj w B A n xs) :
  Calls ah 71 #[.slice A n c] w (pe w (aY xs)):=by
 have HH:=ab h;clear h
 go_enter func71,ntmps71
 go_wp2
 go_loop [3] (fun s=>∃k:Nat,k<=n/\s=.int .i64 k/\Hid (∀j,k<=j->xs.getD j 0=0)) (fun s=>(intOf s).toNat)
 case atStart=>exact⟨n,af _,rfl,ab (fun j hj=>by simp[List.getD,List.getElem?_eq_none (show xs.length<=j by rw[HH.out.1];exact hj)])⟩
 case round =>
  obtain⟨k,hk,rfl,hz⟩:=hrel;by_cases h0:k=0
  ·subst h0
   go_wp2_with (at_builtin;refine iU _ rfl _ _ 48 rfl 136 Tryz.t136 (.int .u32 0) 1 4 underlying48 DZ Dm DA Ek rfl om rfl A 0 c [] rfl rfl (fun h=>absurd h om) sm sm sm ?_)
   intro A' c' w1 hown hgrow;obtain⟨hU,hc⟩:=cj.ofOwn (xs:=[]) hown (by simp[mp])
   have HU:=ab hU;have HB:=ab (jE hgrow (B:=w.heap.size) (af _) (by intro g h;cases h))
   have HV:=ab (mz 0 xs hz.out);clear hU hown hgrow hz;go_wp2;go_ret;exact⟨_,_,_,_,rfl,hc,HU.out,xe,by rw[HV.out];rfl,HB.out⟩
  ·obtain⟨m,rfl⟩:∃m,k=m+1:=⟨k-1,om⟩
   obtain⟨ad,x,rfl,_,hx',_,hx⟩:=HH.out.at_ (k:=m) om;have HX:=ab hx';clear hx';by_cases hx0:x=0
   ·subst hx0;go_wp2;refine⟨⟨m,om,by go_num,ab fun j hj=>?_⟩,by simp[intOf]⟩
    rcases Nat.lt_or_ge m j with h|h
    ·exact hz.out j h
    ·obtain rfl:j=m:=om
     exact HX.out
   ·have hb1:((x:Int)==0)=false:=by simp;omega
    have HT:=HH.out.take hk;have HTT:=ab HT;clear HT
    go_wp2_with (at_builtin;refine iU _ rfl _ _ 48 rfl 136 Tryz.t136 (.int .u32 0) 1 4 underlying48 DZ Dm DA Ek rfl om rfl (some ad) (m+1) c (jh (xs.take (m+1))) rfl (by simp[jh];rw[HH.out.1];omega) (HTT.out.src) (sD _) (by simp[maxLen];omega) om ?_)
    intro A' c' w1 hown hgrow;obtain⟨hU,hc⟩:=cj.ofOwn hown (HH.out.2.1.take _);have HU:=ab hU;have HB:=ab (jE hgrow (B:=w.heap.size) (af _) (by intro g h;cases h))
    have HV:=ab (mz (m+1) xs hz.out);have HTP:Hid (nS (xs.take (m+1))):=ab (sc (fun _=>by rw[Nat.add_sub_cancel,HX.out];exact hx0) (by rw[HH.out.1];exact hk))
    clear hU hown hgrow hz;go_wp2;go_ret;exact⟨_,_,_,_,rfl,hc,HU.out,HTP.out,HV.out.symm,HB.out⟩

theorem L4(neg:Bool)(k v:Nat)(h:k=0->v=0):sg (neg&&decide (0<k)) v=sg neg v:=by
 rcases bC k with a|a
 ·rw[h a,sn,sn]
 ·have:decide (0<k)=true:=by simp;omega
  rw[this,Bool.and_true]
theorem H5(h:cj w B A n xs):n=0->aY xs=0:=by
 intro a;subst a;rw[List.length_eq_zero_iff.1 h.1];rfl
theorem kT(neg:Bool)(A:Option Addr)(n c B:Nat)(xs:List Nat)(w:World)(hn:n<=c)(hm:n<=2147483648)(hB:B<=w.heap.size)(h:cj w B A n xs) :
  Calls ah 103 #[.bool neg,.slice A n c] w (dh w (sg neg (aY xs))):=by
 have HH:=ab h;clear h;have hb0:=(bq w.heap.size w).alloc (af _) (Obj.cells #[ao false,aj none 0 0] 50);have HU:=ab (HH.out.below hb0 hB);have HB0:=ab hb0;clear hb0;have hkn:∀(k:Nat) (zs:List Nat) (w':World) (B':Nat) (A':Option Addr),cj w' B' A' k zs->nS zs->aY zs=aY xs->k<=n:=by
  intro k zs w' B' A' hu ht hv;rw[aE hu ht,hv];have h1:=iL HH.out.2.1;rw[HH.out.1]at h1;exact jt.2 h1
 have HKN:=ab hkn;clear hkn;have main:∀(A1:Option Addr) (k c1:Nat) (zs:List Nat) (w1:World),k<=c1->Hid (cj w1 w1.heap.size A1 k zs)->Hid (nS zs)->Hid (aY zs=aY xs)->Hid (Below (w.heap.size+1) (w.alloc (Obj.cells #[ao false,aj none 0 0] 50)) w1) ->
   ∀ng:Bool,ng=(neg&&decide (0<k))->fB w1 w.heap.size 50 #[.bool false,.slice none 0 0]->dh w (sg neg (aY xs)) (.returned (.agg #[.bool ng,.slice A1 k c1])) ((w1.setCell ⟨w.heap.size,0,none⟩ (.bool ng)).setCell ⟨w.heap.size,1,none⟩ (.slice A1 k c1)):=by
  intro A1 k c1 zs w1 hk HU1 HT1 HV1 HB1 ng hng hblk;refine dh.cell ⟨ng,A1,k,c1,zs,rfl,hk,HU1.out,HT1.out,rfl⟩ hblk (HB0.out.trans (HB1.out.mono om)) (af _) ?_;rw[hng,L4 _ _ _ (H5 HU1.out),HV1.out]
 have HM:=ab main;clear main
 cases neg
 ·go_enter func103,ntmps103
  go_wp2_with fail
  refine(fH A n c B xs _ hn hm (by simp;omega) HU.out).mono ?_
  rintro e w1 ⟨A1,k,c1,zs,rfl,hk,hU1,hT1,hv1,hb1⟩;have hkn:=HKN.out _ _ _ _ _ hU1 hT1 hv1;have hblk:fB w1 w.heap.size 50 #[.bool false,.slice none 0 0]:=(fB.new w 50 _).below hb1 sm
  have HB1:Hid (Below (w.heap.size+1) (w.alloc (Obj.cells #[ao false,aj none 0 0] 50)) w1):=ab (by simpa using hb1)
  obtain⟨e0,e1⟩:=ez hblk;have f0:=hblk.frozen 0;have f1:=hblk.frozen 1;have HK:=ab hblk;have HU1:=ab hU1;clear hU1;have HT1:=ab hT1;clear hT1;have HV1:=ab hv1;clear hv1;clear hb1 hblk;go_wp2;exact bodyPost_ret (v:=.agg #[.bool false,.slice A1 k c1]) (by simp[results,results103,go_sem,e0,e1]) rfl (HM.out A1 k c1 zs w1 hk HU1 HT1 HV1 HB1 false sm HK.out)
 ·go_enter func103,ntmps103
  go_wp2_with fail
  refine(fH A n c B xs _ hn hm (by simp;omega) HU.out).mono ?_
  rintro e w1 ⟨A1,k,c1,zs,rfl,hk,hU1,hT1,hv1,hb1⟩;have hkn:=HKN.out _ _ _ _ _ hU1 hT1 hv1;have hblk:fB w1 w.heap.size 50 #[.bool false,.slice none 0 0]:=(fB.new w 50 _).below hb1 sm
  have HB1:Hid (Below (w.heap.size+1) (w.alloc (Obj.cells #[ao false,aj none 0 0] 50)) w1):=ab (by simpa using hb1)
  obtain⟨e0,e1⟩:=ez hblk;have f0:=hblk.frozen 0;have f1:=hblk.frozen 1;have HK:=ab hblk;have HU1:=ab hU1;clear hU1;have HT1:=ab hT1;clear hT1;have HV1:=ab hv1;clear hv1;clear hb1 hblk;go_wp2;exact bodyPost_ret (v:=.agg #[.bool (decide (0<k)),.slice A1 k c1]) (by simp[results,results103,go_sem,e0,e1]) rfl (HM.out A1 k c1 zs w1 hk HU1 HT1 HV1 HB1 _ (by rw[Bool.true_and]) HK.out)
theorem oN(neg:Bool)(v:Nat)(w:World)(hv:v<18446744073709551616) :
  Calls ah 69 #[.bool neg,.int .u64 v] w (dh w (sg neg v)):=by
 have hl:mp [v%4294967296,v/4294967296]:=by
  intro x hx;simp only[List.mem_cons,List.not_mem_nil,or_false]at hx;rcases hx with rfl|rfl<;>omega
 have hvv:aY [v%4294967296,v/4294967296]=v:=by simp[aY];omega
 go_enter func69,ntmps69
 go_wp2_with fail
 obtain⟨W,hW⟩:∃W,W=w.alloc (Obj.cells #[ao false,aj none 0 0] 50):=⟨_,rfl⟩;have hsz:W.heap.size=w.heap.size+1:=by rw[hW];simp
 have hk:fB W w.heap.size 50 #[.bool false,.slice none 0 0]:=by rw[hW];exact fB.new w 50 _
 have HB0:Hid (Below w.heap.size w W):=ab (by rw[hW];exact(bq w.heap.size w).alloc (af _) _)
 rw[<-hW];have hb:fB (W.alloc (Obj.cells #[c8 IntKind.u32 ((v:Int)%4294967296),c8 IntKind.u32 ((v:Int)/4294967296)] 136)) W.heap.size 136 (df [v%4294967296,v/4294967296] 0):=by
  have:=fB.new W 136 #[c8 IntKind.u32 ((v:Int)%4294967296),c8 IntKind.u32 ((v:Int)/4294967296)];simpa [df]using this
 have hbb:=(bq W.heap.size W).alloc (af _) (Obj.cells #[c8 IntKind.u32 ((v:Int)%4294967296),c8 IntKind.u32 ((v:Int)/4294967296)] 136);have hU:=cj.ofBlk (B:=W.heap.size+1) hb hl om rfl;have HK:=ab (hk.below hbb om);have HBV:Hid (Below w.heap.size w (W.alloc (Obj.cells #[c8 IntKind.u32 ((v:Int)%4294967296),c8 IntKind.u32 ((v:Int)/4294967296)] 136))):=ab (HB0.out.trans (hbb.mono om));rw[hsz]at hU hb;clear hk hb hbb hW;generalize hVV:W.alloc (Obj.cells #[c8 IntKind.u32 ((v:Int)%4294967296),c8 IntKind.u32 ((v:Int)/4294967296)] 136)=V at HK HBV hU ⊢;have hvs:V.heap.size=w.heap.size+2:=by rw[<-hVV];simp[hsz]
 clear hVV;have HU:=ab hU;clear hU;have HVV:=ab hvv;clear hvv;refine(kT neg _ _ _ (w.heap.size+1+1) _ V (af _) sm om HU.out).mono ?_
 rintro e w2 ⟨v,rfl,hI,hb2⟩;obtain⟨neg,A2,n2,c2,zs2,rfl,hI2⟩:=hI;have hblk:fB w2 (w.heap.size) 50 #[.bool false,.slice none 0 0]:=fB.below (w:=V) HK.out hb2 om;obtain⟨e0,e1⟩:=ez hblk;have f0:=hblk.frozen 0;have f1:=hblk.frozen 1;have HK2:=ab hblk;clear hblk;have HI:=ab hI2;clear hI2;have HB2:=ab hb2;clear hb2;go_wp2;exact bodyPost_ret (v:=.agg #[.bool neg,.slice A2 n2 c2]) (by simp[results,results69,go_sem,e0,e1]) rfl
  (dh.cell ⟨neg,A2,n2,c2,zs2,rfl,HI.out⟩ HK2.out (HBV.out.trans (HB2.out.mono (by first|omega|(simp;done)|(simp;omega)))) om (by rw[HVV.out]))

theorem C8(z:Int)(w:World)(h1:-9223372036854775808<=z)(h2:z<=9223372036854775807):Calls ah 29 #[.int .i64 z] w (dh w z):=by
 have HB0:=ab ((bq w.heap.size w).alloc (af _) (Obj.cells #[ao false,aj none 0 0] 50));have HK:=ab (fB.new w 50 #[ao false,aj none 0 0]);by_cases hz:z<0
 ·go_enter func29,ntmps29
  go_wp2_with fail
  rw[show IntKind.u64.wrap (-IntKind.u64.wrap z)=((z.natAbs:Nat):Int)from by rw[IntKind.wrap_u64,IntKind.wrap_u64];omega]
  refine(oN true z.natAbs _ om).mono ?_;rintro e w2 ⟨v,rfl,hI,hb2⟩;obtain⟨neg,A2,n2,c2,zs2,rfl,hI2⟩:=hI;have hblk:fB w2 (w.heap.size) 50 #[.bool false,.slice none 0 0]:=fB.below (w:=w.alloc (Obj.cells #[ao false,aj none 0 0] 50)) HK.out hb2 sm
  obtain⟨e0,e1⟩:=ez hblk;have f0:=hblk.frozen 0;have f1:=hblk.frozen 1;have HK2:=ab hblk;clear hblk;have HI:=ab hI2;clear hI2;have HB2:=ab hb2;clear hb2;go_wp2;exact bodyPost_ret (v:=.agg #[.bool neg,.slice A2 n2 c2]) (by simp[results,results29,go_sem,e0,e1]) rfl
   (dh.cell ⟨neg,A2,n2,c2,zs2,rfl,HI.out⟩ HK2.out (HB0.out.trans (HB2.out.mono (by first|omega|(simp;done)|(simp;omega)))) om (by simp[sg];omega))
 ·have hw:IntKind.u64.wrap z=((z.natAbs:Nat):Int):=by rw[IntKind.wrap_u64];omega
  go_enter func29,ntmps29
  go_wp2_with fail
  refine(oN false z.natAbs _ om).mono ?_;rintro e w2 ⟨v,rfl,hI,hb2⟩;obtain⟨neg,A2,n2,c2,zs2,rfl,hI2⟩:=hI;have hblk:fB w2 (w.heap.size) 50 #[.bool false,.slice none 0 0]:=fB.below (w:=w.alloc (Obj.cells #[ao false,aj none 0 0] 50)) HK.out hb2 sm
  obtain⟨e0,e1⟩:=ez hblk;have f0:=hblk.frozen 0;have f1:=hblk.frozen 1;have HK2:=ab hblk;clear hblk;have HI:=ab hI2;clear hI2;have HB2:=ab hb2;clear hb2;go_wp2;exact bodyPost_ret (v:=.agg #[.bool neg,.slice A2 n2 c2]) (by simp[results,results29,go_sem,e0,e1]) rfl
   (dh.cell ⟨neg,A2,n2,c2,zs2,rfl,HI.out⟩ HK2.out (HB0.out.trans (HB2.out.mono (by first|omega|(simp;done)|(simp;omega)))) om (by simp[sg];omega))
theorem z9(va:Value)(za:Int)(B:Nat)(w:World)(hB:B<=w.heap.size)(ha:ed w B va za)(sa:nl za.natAbs<=2147483648) :
  Calls ah 68 #[va] w (dh w (-za)):=by
 obtain⟨s1,A,n,c,xs,rfl,hnc,hx,tx,rfl⟩:=ha;rw[fq,<-aE hx tx]at sa;have HX:=ab hx;clear hx;have HTX:=ab tx;clear tx
 go_enter func68,ntmps68
 go_wp2_with fail
 obtain⟨hb0,k1,k3⟩:=qh w #[ao s1,aj A n c] #[ao false,aj none 0 0];generalize ((w.alloc (Obj.cells #[ao s1,aj A n c] 50)).alloc (Obj.cells #[ao false,aj none 0 0] 50))=W at hb0 k1 k3 ⊢;have HK:=ab k3;clear k3 k1;have HB0:=ab hb0;clear hb0;have hsz:w.heap.size+1<W.heap.size:=HK.out.lt;refine(kT (!s1) A n c B xs W hnc sa om (HX.out.below HB0.out hB)).mono ?_;rintro e w2 ⟨v,rfl,hI,hb2⟩;obtain⟨neg,A2,n2,c2,zs2,rfl,hI2⟩:=hI;have hblk:fB w2 (w.heap.size+1) 50 #[.bool false,.slice none 0 0]:=fB.below (w:=W) HK.out hb2 om;obtain⟨e0,e1⟩:=ez hblk;have f0:=hblk.frozen 0;have f1:=hblk.frozen 1;have HK2:=ab hblk;clear hblk;have HI:=ab hI2;clear hI2;have HB2:=ab hb2;clear hb2;go_wp2;exact bodyPost_ret (v:=.agg #[.bool neg,.slice A2 n2 c2]) (by simp[results,results68,go_sem,e0,e1]) rfl
  (dh.cell ⟨neg,A2,n2,c2,zs2,rfl,HI.out⟩ HK2.out (HB0.out.trans (HB2.out.mono (by first|omega|(simp;done)|(simp;omega)))) om (by rw[Dw]))
theorem GX(va:Value)(za:Int)(B:Nat)(w:World)(hB:B<=w.heap.size)(ha:ed w B va za)(sa:nl za.natAbs<=2147483648) :
  Calls ah 45 #[va] w (dh w ((za.natAbs:Int))):=by
 obtain⟨s1,A,n,c,xs,rfl,hnc,hx,tx,rfl⟩:=ha;rw[fq,<-aE hx tx]at sa;have HX:=ab hx;clear hx;have HTX:=ab tx;clear tx
 go_enter func45,ntmps45
 go_wp2_with fail
 obtain⟨hb0,k1,k3⟩:=qh w #[ao s1,aj A n c] #[ao false,aj none 0 0];generalize ((w.alloc (Obj.cells #[ao s1,aj A n c] 50)).alloc (Obj.cells #[ao false,aj none 0 0] 50))=W at hb0 k1 k3 ⊢;have HK:=ab k3;clear k3 k1;have HB0:=ab hb0;clear hb0;have hsz:w.heap.size+1<W.heap.size:=HK.out.lt;refine(kT false A n c B xs W hnc sa om (HX.out.below HB0.out hB)).mono ?_;rintro e w2 ⟨v,rfl,hI,hb2⟩;obtain⟨neg,A2,n2,c2,zs2,rfl,hI2⟩:=hI;have hblk:fB w2 (w.heap.size+1) 50 #[.bool false,.slice none 0 0]:=fB.below (w:=W) HK.out hb2 om;obtain⟨e0,e1⟩:=ez hblk;have f0:=hblk.frozen 0;have f1:=hblk.frozen 1;have HK2:=ab hblk;clear hblk;have HI:=ab hI2;clear hI2;have HB2:=ab hb2;clear hb2;go_wp2;exact bodyPost_ret (v:=.agg #[.bool neg,.slice A2 n2 c2]) (by simp[results,results45,go_sem,e0,e1]) rfl
  (dh.cell ⟨neg,A2,n2,c2,zs2,rfl,HI.out⟩ HK2.out (HB0.out.trans (HB2.out.mono (by first|omega|(simp;done)|(simp;omega)))) om (by rw[fq];simp[sg]))
theorem ue(va:Value)(za:Int)(B:Nat)(w:World)(hB:B<=w.heap.size)(ha:ed w B va za)(sa:nl za.natAbs<=2147483648) :
  Calls ah 126 #[va] w (dh w (za)):=by
 obtain⟨s1,A,n,c,xs,rfl,hnc,hx,tx,rfl⟩:=ha;rw[fq,<-aE hx tx]at sa;have HX:=ab hx;clear hx;have HTX:=ab tx;clear tx
 go_enter func126,ntmps126
 go_wp2_with fail
 obtain⟨hb0,k1,k3⟩:=qh w #[ao s1,aj A n c] #[ao false,aj none 0 0];generalize ((w.alloc (Obj.cells #[ao s1,aj A n c] 50)).alloc (Obj.cells #[ao false,aj none 0 0] 50))=W at hb0 k1 k3 ⊢;have HK:=ab k3;clear k3 k1;have HB0:=ab hb0;clear hb0;have hsz:w.heap.size+1<W.heap.size:=HK.out.lt;refine(kT s1 A n c B xs W hnc sa om (HX.out.below HB0.out hB)).mono ?_;rintro e w2 ⟨v,rfl,hI,hb2⟩;obtain⟨neg,A2,n2,c2,zs2,rfl,hI2⟩:=hI;have hblk:fB w2 (w.heap.size+1) 50 #[.bool false,.slice none 0 0]:=fB.below (w:=W) HK.out hb2 om;obtain⟨e0,e1⟩:=ez hblk;have f0:=hblk.frozen 0;have f1:=hblk.frozen 1;have HK2:=ab hblk;clear hblk;have HI:=ab hI2;clear hI2;have HB2:=ab hb2;clear hb2;go_wp2;exact bodyPost_ret (v:=.agg #[.bool neg,.slice A2 n2 c2]) (by simp[results,results126,go_sem,e0,e1]) rfl
  (dh.cell ⟨neg,A2,n2,c2,zs2,rfl,HI.out⟩ HK2.out (HB0.out.trans (HB2.out.mono (by first|omega|(simp;done)|(simp;omega)))) om (rfl))
theorem rU(va:Value)(za:Int)(B:Nat)(w:World)(hB:B<=w.heap.size)(ha:ed w B va za)(sa:nl za.natAbs<=2147483648) :
  Calls ah 64 #[va] w fun e w'=>e=.returned (.int .i64 za.sign)/\Below w.heap.size w w':=by
 obtain⟨s1,A,n,c,xs,rfl,hnc,hx,tx,rfl⟩:=ha;rw[fq,<-aE hx tx]at sa;have hb0:=(bq w.heap.size w).alloc (af _) (Obj.cells #[ao s1,aj A n c] 50);have hk:=fB.new w 50 #[ao s1,aj A n c];have HU:=ab (hx.below hb0 hB);have HX:=ab hx;clear hx;have HTX:=ab tx;clear tx;have HN:=ab (aE HX.out HTX.out);have HC:=ab (mL s1 (aY xs));have HB0:=ab hb0;clear hb0;have HK:=ab hk;clear hk;generalize hr:(sg s1 (aY xs)).sign=r at HC;clear hr
 go_enter func64,ntmps64
 go_wp2_with fail
 refine(fH A n c B xs _ hnc sa (by simp;omega) HU.out).mono ?_
 rintro e w1 ⟨A1,k,c1,zs,rfl,hk,hU1,hT1,hv1,hb1⟩;have hkn:k=n:=by rw[aE hU1 hT1,hv1];exact HN.out.symm
 subst hkn;have hblk:=HK.out.below hb1 sm
 obtain⟨e0,e1⟩:=ez hblk;have HBB:=ab (HB0.out.trans (hb1.mono sm))
 clear hblk hb1 hU1 hT1 hv1;by_cases h0:k=0
 ·subst h0;have hz:=H5 HX.out rfl;have hr:r=0:=by have:=HC.out;omega
  clear hz;subst hr;go_wp2;go_ret;exact⟨rfl,HBB.out⟩
 ·have hpos:0<aY xs:=by
   rcases bC (aY xs)with h|h
   ·have h1:=HN.out;rw[h]at h1;have:nl 0=0:=by have:=jt.2 (om:0<4294967296^0);omega
    omega
   ·exact h
  have h1:((k:Int)==0)=false:=by simp;omega
  cases s1
  ·have hr:r=1:=by have:=HC.out;simp at this;omega
   subst hr;clear hpos;go_wp2;go_ret;exact⟨rfl,HBB.out⟩
  ·have hr:r=-1:=by have:=HC.out;simp at this;omega
   subst hr;clear hpos;go_wp2;go_ret;exact⟨rfl,HBB.out⟩
theorem lA(A B:Option Addr)(n m c d L:Nat)(xs ys:List Nat)(w:World)(hn:n<=9223372036854775807)(hm:m<=9223372036854775807)(hx:cj w L A n xs)(hy:cj w L B m ys)(tx:nS xs)(ty:nS ys) :
  Calls ah 70 #[.slice A n c,.slice B m d] w fun e w'=>e=.returned (.int .i64 (kt (aY xs) (aY ys)))/\dJ w w':=by
 have HX:=ab hx;clear hx;have HY:=ab hy;clear hy;have TX:=ab tx;clear tx;have TY:=ab ty;clear ty;by_cases h1:n<m
 ·have hr:=ab (kL (oO HX.out.2.1 TY.out (by rw[HX.out.1,HY.out.1];exact h1)))
  have hne:((n:Int) != (m:Int))=true:=by simp;omega
  have hne2:¬(n:Int)=m:=om
  go_enter func70,ntmps70
  go_wp2;go_ret;exact⟨by rw[hr.out];rfl,dJ.refl _⟩
 by_cases h2:m<n
 ·have hr:=ab (jO (oO HY.out.2.1 TX.out (by rw[HX.out.1,HY.out.1];exact h2)))
  have hne:((n:Int) != (m:Int))=true:=by simp;omega
  have hne2:¬(n:Int)=m:=om
  go_enter func70,ntmps70
  go_wp2;go_ret;exact⟨by rw[hr.out];rfl,dJ.refl _⟩
 obtain rfl:n=m:=om
 go_enter func70,ntmps70
 go_wp2
 go_loopw [5] (fun iv wr=>∃(k:Nat),k<=n/\iv=.int .i64 ((k:Int)-1)/\Hid (dJ w wr)/\Hid (xs.drop k=ys.drop k)) (fun iv _=>(intOf iv+1).toNat)
 case atStart=>exact⟨n,om,rfl,ab (dJ.refl w),ab (by rw[gF (by rw[HX.out.1];omega),gF (by rw[HY.out.1];omega)])⟩
 case round =>
  obtain⟨k,hk,rfl,HQ,HD⟩:=hrel;by_cases h0:k=0
  ·subst h0;have hr:=ab (kM (show aY xs=aY ys by have:=HD.out;simp only[List.drop_zero]at this;rw[this]))
   go_wp2;go_ret;exact⟨by rw[hr.out];rfl,HQ.out⟩
  ·obtain⟨i,rfl⟩:∃i,k=i+1:=⟨k-1,om⟩
   obtain⟨ad,x,rfl,_,hxx,hx4,h3⟩:=(HX.out.still HQ.out).at_ (k:=i) om;obtain⟨bd,y,rfl,_,hyy,hy4,h4⟩:=(HY.out.still HQ.out).at_ (k:=i) om;have HXX:=ab hxx;clear hxx;have HYY:=ab hyy;clear hyy;have e1:((i+1:Nat):Int)-1=(i:Int):=om
   rw[e1];clear e1;have hi0:(0:Int)<=i:=om
   have hin:(i:Int)<n:=om
   rcases Nat.lt_trichotomy x y with hlt|heq|hgt
   ·have hr:=ab (kL (qC HX.out.2.1 (i:=i) (by rw[HX.out.1];omega) (by rw[HX.out.1,HY.out.1]) HD.out (by rw[HXX.out,HYY.out];exact hlt)))
    have hne:((x:Int) != (y:Int))=true:=by simp;omega
    have hne2:¬(x:Int)=y:=om
    go_wp2
    go_quiet (fail)
    go_wp2
    go_quiet (fail)
    go_wp2;go_ret;exact⟨by rw[hr.out];rfl,by repeat' (first|exact HQ.out|apply dJ.more)⟩
   ·subst heq;go_wp2
    go_quiet (fail)
    go_wp2
    go_roundw
    case rel=>exact⟨i,om,rfl,ab (by repeat' (first|exact HQ.out|apply dJ.more)),ab (by rw[qO (by rw[HX.out.1];omega),qO (xs:=ys) (by rw[HY.out.1];omega),HXX.out,HYY.out,HD.out])⟩
    case measure=>simp[intOf]
   ·have hr:=ab (jO (qC HY.out.2.1 (i:=i) (by rw[HY.out.1];omega) (by rw[HX.out.1,HY.out.1]) HD.out.symm (by rw[HXX.out,HYY.out];exact hgt)))
    have hne:((x:Int) != (y:Int))=true:=by simp;omega
    have hne2:¬(x:Int)=y:=om
    go_wp2
    go_quiet (fail)
    go_wp2
    go_quiet (fail)
    go_wp2;go_ret;exact⟨by rw[hr.out];rfl,by repeat' (first|exact HQ.out|apply dJ.more)⟩

end Go.Proofs.YtdobfmlmenaajaaGreatDoor
