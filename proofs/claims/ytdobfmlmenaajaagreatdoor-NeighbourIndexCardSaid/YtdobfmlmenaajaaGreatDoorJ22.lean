/-
  Lemmas for NeighbourIndex.
-/
import Derived.Test.YtdobfmlmenaajaaGreatDoorJ19
import Derived.Test.YtdobfmlmenaajaaGreatDoorJ21
import Derived.Test.YtdobfmlmenaajaaGreatDoorCards
import Derived.Test.YtdobfmlmenaajaaGreatDoorTie
import Derived.ProofKit
import Derived.OpenShut
import Derived.LaidMore
import Derived.Lay
import Derived.SevenTiedAt
import Derived.Stop.Joined
namespace Go.Proofs.YtdobfmlmenaajaaGreatDoor
open _root_.Go.Proofs.Tryz
open _root_.Array renaming getElem?_eq_some_iff→bS,getElem?_eq_none→fm
open _root_.Bool renaming and_eq_true→aA
open _root_.Int renaming toNat_of_nonneg→gX
open _root_.List renaming getElem?_eq_getElem→bD,getElem?_map→mn,take→rY
open _root_.Nat renaming one_mul→kg
open _root_.Option renaming none→ac,some→ef
open _root_.Or renaming inl→bQ
open _root_.Go.Proofs.Tryz renaming prog→aj
set_option maxHeartbeats 6400000
set_option maxRecDepth 4096
set_option linter.all false
open Go.ChangeShapes Go.WideShapes Go.ChangeAt Go.RowKit
theorem law8(S0:St)(hG:kD S0)(d k L:Nat)(nums:Nat->Int)(Lb:Nat)(base:Nat->AV)(q t:Nat)(hd:d<256)(hk:k<256)(hq:q<256)(ht:t<65536)(hnums:∀i,i<L->-128<=nums i/\nums i<=127) :
  cS 8 [wo d k L nums Lb base q t] S0 (fun r S'=>r=.bool true/\eJ S0 S') :=
 Fm (fun S _=>(Ds S).mono fun r S' h=>⟨h.1,by rw[h.2];exact eJ.refl S⟩) S0 hG d k L nums Lb base q t hd hk hq ht hnums
def vA:List Int:=[7,11,13,17,19,23,29,31]
theorem Db{W:World}(h:laidMetH aj Rows.neighbourIndexRow.laid W):∃ty cs,W.heap[0]? = some (.cells cs ty (0,0))/\cs.size=8/\∀r,r<8->cs[r]? = some (.int .i64 (vA.getD r 0)):=by
 rw[MakeChecks.laidMetH_plain _ _ _ kr]at h
 obtain⟨ps,⟨g,t,cs,fuel,p,q,hg,ht,hv,hd,_,hps⟩,_,hfr⟩:=h
 obtain rfl := ef.inj ((show aj.globalNamed "quadform/prime.offsets" = some 0 by kernel_rfl).symm.trans hg)
 obtain rfl:=ef.inj ((show(aj.globals[0]?).map (·.type)=some 239 by kernel_rfl).symm.trans ht)
 obtain⟨xs,m,_,ex,hlen,hl,hel⟩:=DataW.trod_array underlying239 hd;have c2:aj.cellsOf 2=1:=by kernel_rfl
 have c239:aj.cellsOf 239=8:=by kernel_rfl
 have hsz:cs.size=8:=by rw[c239]at hlen;simpa using hlen
 have e3:(xs.map (·.1))=vA.map fun n=>.lit (.int .i64 n):=(DataW.agg.inj (Prod.mk.inj ex).1).symm
 obtain⟨⟨c,ty,hc⟩,_⟩:=hfr 0 0 (by rw[hps];simp only[List.mem_append,MemPlace.row];exact bQ (bQ (List.mem_map.2 ⟨0,List.mem_range.2 om,rfl⟩)))
 have hcs:c=cs:=by
  unfold World.var? at hv;rw[hg]at hv;simp only[Option.bind_some,hc]at hv;exact ef.inj hv
 subst hcs;refine⟨ty,c,hc,hsz,fun r hr=>?_⟩;have hE:=hel r om;rw[c2,Nat.mul_one,bD om]at hE;obtain⟨z,e1,e2,_⟩:=DataW.trod_int underlying2 hE;have e4:(xs.map (·.1))[r]? = (vA.map fun n=>(DataW.lit (.int .i64 n):DataW Unit))[r]?:=by rw[e3]
 rw[mn,mn,bD (by omega:r<xs.length),bD (show r<vA.length from hr),e2]at e4
 have hz:z=vA.getD r 0:=by
  simp only[Option.map_some,ef.injEq,DataW.lit.injEq,Lit.int.injEq,true_and]at e4;rw[e4,List.getD,bD (show r<vA.length from hr)];rfl
 rw[<-hz];have h0:((c.toList.drop r).take 1)[0]? = some (.int .i64 z):=by rw[e1]<;>rfl
 simpa using h0
def Hk(ty:TypeId):St:=fun b=>if b=0 then some ⟨ty,1,8,fun j=>.int .i64 (vA.getD j 0)⟩else ac
theorem JC{W:World}{ty:TypeId}{cs:Array Value}(h:W.heap[0]? = some (.cells cs ty (0,0)))(hs:cs.size=8)(hc:∀r,r<8->cs[r]? = some (.int .i64 (vA.getD r 0))):dN W (Hk ty):=by
 intro b x hx;unfold Hk at hx;split at hx
 ·rename_i e;subst e;cases hx;refine⟨cs,h,by show 1*8<=cs.size;omega,fun j hj=>⟨.int .i64 (vA.getD j 0),⟨by rw[kg];exact hc j hj,trivial⟩,by simp[bs]⟩,fun k y hy=>?_⟩
  have hk:k<8:=by rw[<-hs];exact(bS.1 hy).1
  rw[hc k hk]at hy
  cases hy;trivial
 ·cases hx
theorem Hj(ty:TypeId):kD (Hk ty):=by
 refine⟨ty,_,by unfold Hk;rw[if_pos rfl],fun j hj=>?_⟩
 rcases (om:j=0∨j=1∨j=2∨j=3∨j=4∨j=5∨j=6∨j=7)with rfl|rfl|rfl|rfl|rfl|rfl|rfl|rfl<;>rfl
def Kt(W:World)(v:Value)(n:Nat)(z:Nat->Int):Prop :=
 (∀i,i<n->-128<=z i/\z i<=127)/\(v=.slice ac 0 0/\n=0∨∃a cap,v=.slice (some a) n cap/\n<=cap/\∀i,i<n->W.cell? (a.add i)=some (.int .i8 (z i)))
theorem En{H:Type}{enc:TypeId×Value->H}{W:World}{hd:Bool}{fuel:Nat}{cs:List Value}{x:DataW H×List MemPlace}(h:DataW.trod enc aj W 0 (fun _=>true) hd fuel 22 cs=some x):∃v n z,cs=[v]/\Kt W v n z:=by
 rcases open_ints underlying22 underlying41 kr h with⟨h1,_⟩|⟨a,len,cap,zs,h1,_,h2,_,h3,_,h4,h5⟩
 ·exact⟨_,0,fun _=>0,h1,fun i hi=>absurd hi om,bQ ⟨rfl,rfl⟩⟩
 ·rw[if_pos rfl]at h3;refine⟨_,len,fun i=>zs.getD i 0,h1,fun i hi=>?_,Or.inr ⟨a,cap,rfl,h2,fun i hi=>h4 i om⟩⟩;have hm:zs.getD i 0∈zs:=by
   rw[List.getD_eq_getElem?_getD,bD om];exact List.getElem_mem _
  have:=h5 _ hm;simp only[Lit.wf,aA,decide_eq_true_eq]at this;exact this
theorem Kt.rep{W:World}{ty:TypeId}{cs:Array Value}(h:W.heap[0]? = some (.cells cs ty (0,0)))(hs:cs.size=8)(hc:∀r,r<8->cs[r]? = some (.int .i64 (vA.getD r 0))){v:Value}{n:Nat}{z:Nat->Int}(hv:Kt W v n z) :
  bs W (Hk ty).dom (.lst 1 n (fun i=>.int .i8 (z i))) v:=by
 simp only[bs];rcases hv.2 with⟨rfl,rfl⟩|⟨a,cap,rfl,h1,h2⟩
 ·exact⟨_,_,rfl,Nat.le_refl _,fun h0=>absurd h0 om⟩
 ·refine⟨_,_,rfl,h1,fun hn=>?_⟩;obtain⟨b,off,sp⟩:=a;have h0:=h2 0 hn;have hsp:sp=ac:=by
   cases sp with
   | none=>rfl
   | some s =>
    simp only[Addr.add,if_pos,World.cell?]at h0;split at h0
    ·simp at h0
    ·cases h0
  subst hsp;obtain⟨cs0,ty0,fr0,hb,_⟩:=wl h0;simp only[Addr.add,if_pos]at hb;have cell:∀j,j<n->cs0[off+j]? = some (.int .i8 (z j)):=fun j hj=>by
   have:=h2 j hj;have e:(Addr.add ⟨b,off,ac⟩ j)=⟨b,off+j,ac⟩:=gH b off j;rw[e]at this;simp only[World.cell?,hb]at this;simpa using this
  refine⟨b,off,rfl,dW hb,fun hM=>?_,fun j hj=>⟨.int .i8 (z j),⟨cs0,ty0,fr0,hb,by rw[kg];exact cell j hj,trivial⟩,by simp[bs]⟩⟩
  have hb0:b=0:=by
   unfold St.dom Hk at hM;by_cases e:b=0
   ·exact e
   ·rw[if_neg e]at hM;exact absurd rfl hM
  subst hb0;rw[h]at hb
  cases hb
  have hk:=cell 0 hn;have hlt:off+0<8:=by rw[<-hs];exact(bS.1 hk).1
  rw[hc _ hlt]at hk
  cases hk
theorem Kt.cells{W:World}{v:Value}{n:Nat}{z:Nat->Int}(hv:Kt W v n z):v.cells=#[v]:=by
 rcases hv.2 with⟨rfl,_⟩|⟨a,cap,rfl,_⟩<;>rfl
theorem FA{v:Value}{c0 c1:Value}{l:List Value}(h:v.cells.toList=c0::c1::l):v=.agg (c0::c1::l).toArray:=by
 cases v with
 | agg xs =>
  simp only[Value.cells]at h;rw[<-h]
 | _=>simp[Value.cells]at h
theorem len6{cs:List Value}(h:cs.length=6):∃a0 a1 a2 a3 a4 a5,cs=[a0,a1,a2,a3,a4,a5]:=by
 match cs,h with
 | [a0,a1,a2,a3,a4,a5],_=>exact⟨a0,a1,a2,a3,a4,a5,rfl⟩
theorem Fh{H:Type}{enc:TypeId×Value->H}{W:World}{hd:Bool}{v:Value}{d:DataW H}{ps:List MemPlace}(h:DataW.Trod enc aj W 0 (fun _=>true) hd 27 v d ps) :
  ∃(d0 k0 q0 t0:Nat) (s1 s2:Value) (n1 n2:Nat) (z1 z2:Nat->Int),d0<256/\k0<256/\q0<256/\t0<65536/\Kt W s1 n1 z1/\Kt W s2 n2 z2/\v=.agg #[.int .u8 d0,.int .u8 k0,s1,s2,.int .u8 q0,.int .u16 t0]:=by
 obtain⟨fuel,h⟩:=h;have c27:aj.cellsOf 27=6:=by kernel_rfl
 have c24:aj.cellsOf 24=4:=by kernel_rfl
 have c5:aj.cellsOf 5=1:=by kernel_rfl
 have c25:aj.cellsOf 25=1:=by kernel_rfl
 have c22:aj.cellsOf 22=1:=by kernel_rfl
 have u8:∀{fuel:Nat} {c:Value} {x:DataW H×List MemPlace},DataW.trod enc aj W 0 (fun _=>true) hd fuel 5 [c]=some x->∃n:Nat,n<256/\c=.int .u8 n:=fun {fuel c x} h=>by
  obtain⟨n,e,_,hw⟩:=DataW.trod_int underlying5 h
  cases e
  simp only[Lit.wf,aA,decide_eq_true_eq]at hw;have m1:IntKind.u8.min=0:=rfl;have m2:IntKind.u8.max=255:=rfl;rw[m1,m2]at hw;exact⟨n.toNat,om,by rw[gX hw.1]⟩
 have u16:∀{fuel:Nat} {c:Value} {x:DataW H×List MemPlace},DataW.trod enc aj W 0 (fun _=>true) hd fuel 25 [c]=some x->∃n:Nat,n<65536/\c=.int .u16 n:=fun {fuel c x} h=>by
  obtain⟨n,e,_,hw⟩:=DataW.trod_int underlying25 h
  cases e
  simp only[Lit.wf,aA,decide_eq_true_eq]at hw;have m1:IntKind.u16.min=0:=rfl;have m2:IntKind.u16.max=65535:=rfl;rw[m1,m2]at hw;exact⟨n.toNat,om,by rw[gX hw.1]⟩
 have some_of:∀{α:Type} {l:List α} {i k:Nat},l.length=k->i<k->∃y,l[i]? = some y:=fun {α l i k} h1 h2=>⟨l[i]'om,bD om⟩;obtain⟨xs,n,_,_,hlen,hx,hf⟩:=DataW.trod_struct underlying27 h;rw[c27]at hlen;generalize hcs:v.cells.toList=cs at hlen hf;obtain⟨a0,a1,a2,a3,a4,a5,rfl⟩:=len6 hlen;have f0:DataW.trod enc aj W 0 (fun _=>true) hd n 24 (rY (aj.cellsOf 24) [a0,a1,a2,a3,a4,a5])=xs[0]?:=hf 0 _ rfl;have f1:DataW.trod enc aj W 0 (fun _=>true) hd n 5 (rY (aj.cellsOf 5) [a4,a5])=xs[1]?:=hf 1 _ rfl;have f2:DataW.trod enc aj W 0 (fun _=>true) hd n 25 (rY (aj.cellsOf 25) [a5])=xs[2]?:=hf 2 _ rfl;obtain⟨y0,e0⟩:=some_of hx (om:0<3)
 obtain⟨y1,e1⟩:=some_of hx (om:1<3)
 obtain⟨y2,e2⟩:=some_of hx (om:2<3)
 rw[c24,e0]at f0;rw[c5,e1]at f1;rw[c25,e2]at f2;obtain⟨q0,hq,rfl⟩:=u8 f1;obtain⟨t0,ht,rfl⟩:=u16 f2;obtain⟨ys,n',_,_,_,hy,hg⟩:=DataW.trod_struct underlying24 f0;have g0:DataW.trod enc aj W 0 (fun _=>true) hd n' 5 (rY (aj.cellsOf 5) [a0,a1,a2,a3])=ys[0]?:=hg 0 _ rfl;have g1:DataW.trod enc aj W 0 (fun _=>true) hd n' 5 (rY (aj.cellsOf 5) [a1,a2,a3])=ys[1]?:=hg 1 _ rfl;have g2:DataW.trod enc aj W 0 (fun _=>true) hd n' 22 (rY (aj.cellsOf 22) [a2,a3])=ys[2]?:=hg 2 _ rfl;have g3:DataW.trod enc aj W 0 (fun _=>true) hd n' 22 (rY (aj.cellsOf 22) [a3])=ys[3]?:=hg 3 _ rfl;obtain⟨w0,i0⟩:=some_of hy (om:0<4)
 obtain⟨w1,i1⟩:=some_of hy (om:1<4)
 obtain⟨w2,i2⟩:=some_of hy (om:2<4)
 obtain⟨w3,i3⟩:=some_of hy (om:3<4)
 rw[c5,i0]at g0;rw[c5,i1]at g1;rw[c22,i2]at g2;rw[c22,i3]at g3;obtain⟨d0,hd0,rfl⟩:=u8 g0;obtain⟨k0,hk0,rfl⟩:=u8 g1;obtain⟨s1,n1,z1,es1,hs1⟩:=En g2;obtain⟨s2,n2,z2,es2,hs2⟩:=En g3
 cases es1;cases es2
 exact⟨d0,k0,q0,t0,_,_,n1,n2,z1,z2,hd0,hk0,hq,ht,hs1,hs2,FA hcs⟩
theorem BI{W:World}(hL:laidMetH aj Rows.neighbourIndexRow.laid W){d0 k0 q0 t0:Nat}{s1 s2:Value}{n1 n2:Nat}{z1 z2:Nat->Int}(hd:d0<256)(hk:k0<256)(hq:q0<256)(ht:t0<65536)(h1:Kt W s1 n1 z1)(h2:Kt W s2 n2 z2) :
  Calls aj 8 #[.agg #[.int .u8 d0,.int .u8 k0,s1,s2,.int .u8 q0,.int .u16 t0]] W fun e W'=>e=.returned (.bool true)/\Below W.heap.size W W':=by
 obtain⟨ty,cs,hc,hs,hv⟩:=Db hL;have hS:=JC hc hs hv;have r1:=h1.rep hc hs hv;have r2:=h2.rep hc hs hv;have hargs:bq W (Hk ty).dom [wo d0 k0 n1 z1 n2 (fun i=>.int .i8 (z2 i)) q0 t0] [.agg #[.int .u8 d0,.int .u8 k0,s1,s2,.int .u8 q0,.int .u16 t0]]:=by
  simp only[bq];refine⟨?_,trivial⟩;unfold wo;simp only[bs];refine⟨[.int .u8 d0,.int .u8 k0,s1,s2,.int .u8 q0,.int .u16 t0],?_,?_⟩
  ·simp only[List.flatMap_cons,List.flatMap_nil,h1.cells,h2.cells];rfl
  ·simp only[bq];exact⟨by simp[bs],by simp[bs],r1,r2,by simp[bs],by simp[bs],trivial⟩
 refine(law8 (Hk ty) (Hj ty) d0 k0 n1 z1 n2 (fun i=>.int .i8 (z2 i)) q0 t0 hd hk hq ht h1.1 W _ hS hargs).mono ?_;rintro e w' ⟨u,r,S',rfl,⟨rfl,hE⟩,hR,hS',hG⟩;simp only[bs]at hR;subst hR;refine⟨rfl,hG.os,hG.tape,hG.output,hG.size,fun k hk=>?_⟩;by_cases e:k=0
 ·subst e;have e0:Hk ty 0=some ⟨ty,1,8,fun j=>.int .i64 (vA.getD j 0)⟩:=by unfold Hk;rw[if_pos rfl]
  obtain⟨cs',g1,_,g3,_⟩:=hS' 0 _ (hE 0 _ e0);obtain⟨cs2,g5,g6⟩:=hG.shape 0 cs ty (0,0) hc;rw[g1]at g5
  cases g5
  rw[g1,hc];have:cs'=cs:=by
   apply Array.ext_getElem?;intro j;by_cases hj:j<8
   ·obtain⟨u,⟨u1,_⟩,u2⟩:=g3 j hj;simp only[bs]at u2;rw[kg]at u1;rw[u1,hv j hj,u2]
   ·rw[fm om,fm om]
  rw[this]
 ·exact hG.keep k hk (fun hM=>by unfold St.dom Hk at hM;rw[if_neg e]at hM;exact hM rfl)
theorem own:ownKnob aj.godebug=ac:=by kernel_rfl
theorem Jy:laidOutB aj=true:=by kernel_rfl
theorem LQ(os:Os)(started:os.Started)(H:Type)(enc:TypeId×Value->H) :
  ReturnsInHanded {} Tryz.checked os 8 .any (fun w args=>(Rows.neighbourIndexSpec.pre enc aj Tryz.f8 Rows.neighbourIndexRow.domain false w args/\laidMetH aj Rows.neighbourIndexRow.laid w)/\sizedMet enc aj Tryz.f8 (OpenSpec.ofChange Rows.neighbourIndexSpec) false w args)
   (Rows.neighbourIndexSpec.post enc aj Tryz.f8 false true false false):=by
 refine returnsInHanded_of_change_and (C:=Tryz.checked) (X:=fun w _=>laidMetH aj Rows.neighbourIndexRow.laid w) (fun _ _ _ hh h=>h.of_heap hh) own started kr func8
  (ChangeSpec.witness_shaped (enc:=enc) (C:=Tryz.checked) (os:=os) (X:=fun w _=>laidMetH aj Rows.neighbourIndexRow.laid w) false (World.laidAll aj os Rows.neighbourIndexRow.laid) #[.agg #[.int .u8 0,.int .u8 0,.slice ac 0 0,.slice ac 0 0,.int .u8 0,.int .u16 0]] 8 (World.laidAll_os _ _ _)
   (World.shaped_of_ZipB kr kr) kr kr kr
   (by rw[MakeChecks.laidMetH_plain _ _ _ kr];exact laidMet_laidAll _ kr kr)) ?_
 intro W base args ds gs before hval0 hW _ _ hL _;have hW':=hW;obtain⟨p,q,hA0,hV,rfl,_,_⟩:=hW;have hA:DataW.TrodAll enc aj W 0 (fun _=>true) true Tryz.f8.params.toList args.toList ds p:=hA0;have hval:∀(j:Nat) t v,Tryz.f8.params[j]? = some t->args[j]? = some v->Value.okWide aj W .any base t v:=hval0;rw[params8]at hA hval;obtain⟨v,d,rfl,rfl,h1⟩:=trodAll_one hA;obtain⟨rfl,rfl⟩:=trodVars_none hV;obtain⟨d0,k0,q0,t0,s1,s2,n1,n2,z1,z2,b1,b2,b3,b4,hs1,hs2,rfl⟩:=Fh h1;have hlt1:∀x∈p,x.block<W.heap.size:=by
  obtain⟨f1,h1f⟩:=h1;exact fun x hx=>DataW.trod_lt _ _ _ _ h1f x hx
 refine(BI hL b1 b2 b3 b4 hs1 hs2).mono fun e W' ⟨he,hB⟩=>?_;subst he;refine⟨_,rfl,_,_,_,[],p,[],hW',?_,?_,rfl,hB.frame _,fun h=>by cases h⟩
 ·exact trodAll_mk1 (shut_bool underlying4 _)
 ·exact trodAll_mk1 (Below.trod Jy kr (of_decide_eq_true kr) h1 hB hlt1)
end Go.Proofs.YtdobfmlmenaajaaGreatDoor
