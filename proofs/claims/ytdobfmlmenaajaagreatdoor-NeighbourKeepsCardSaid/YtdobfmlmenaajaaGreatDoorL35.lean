/-Lemmas.-/
import Derived.Test.YtdobfmlmenaajaaGreatDoorL34
import Derived.Test.YtdobfmlmenaajaaGreatDoorCards
import Derived.Test.YtdobfmlmenaajaaGreatDoorTie
import Derived.ProofKit
import Derived.OpenShut
import Derived.LaidMore
import Derived.Lay
import Derived.SevenTiedAt
import Derived.Stop.Joined
namespace Go.Proofs.YtdobfmlmenaajaaGreatDoor
open _root_.Go.Proofs.Tryz
open _root_.Array renaming getElem?_eq_some_iff→ci,getElem?_eq_none→fu
open _root_.Bool renaming and_eq_true→bL
open _root_.Int renaming toNat_of_nonneg→eM
open _root_.List renaming getElem?_eq_getElem→bD,getElem?_map→mU,take→ti
open _root_.Nat renaming one_mul→jR
open _root_.Option renaming none→ae,some→eL
open _root_.Or renaming inl→bn
open _root_.Go.Proofs.Tryz renaming prog→ah
set_option maxHeartbeats 6400000
set_option maxRecDepth 4096
set_option linter.all false
variable{cs:Array Value}{hd:Bool}{ps:List MemPlace}{l:List Value}{fuel n:Nat}{z:Nat->Int}{H:Type}{ty:TypeId}{v:Value}{W:World}
open Go.ChangeShapes Go.WideShapes Go.ChangeAt Go.RowKit
theorem law6(S0:St)(a:iT S0)(d k L:Nat)(nums:Nat->Int)(Lb:Nat)(base:Nat->AV)(q t:Nat)(b:d<256)(c:k<256)(e:q<256)(f:t<65536)(hnums:∀i,i<L->-128<=nums i/\nums i<=127) :
  cL 6 [xQ d k L nums Lb base q t] S0 (fun r S'=>r=.bool true/\cY S0 S'):=
 F7 Bo S0 a d k L nums Lb base q t b c e f hnums
def wY:List Int:=[7,11,13,17,19,23,29,31]
theorem D0(h:laidMetH ah Rows.neighbourKeepsRow.laid W):∃ty cs,W.heap[0]?=some (.cells cs ty (0,0))/\cs.size=8/\∀r,r<8->cs[r]?=some (.int .i64 (wY.getD r 0)):=by
 rw[MakeChecks.laidMetH_plain _ _ _ kr]at h
 obtain⟨ps,⟨g,t,cs,fuel,p,q,hg,ht,hv,hd,_,hps⟩,_,hfr⟩:=h
 obtain rfl:=eL.inj ((show ah.globalNamed "quadform/prime.offsets" = some 0 by kernel_rfl).symm.trans hg)
 obtain rfl:=eL.inj ((show(ah.globals[0]?).map (·.type)=some 239 by kernel_rfl).symm.trans ht)
 obtain⟨xs,m,_,ex,hlen,hl,hel⟩:=DataW.trod_array underlying239 hd;have c2:ah.cellsOf 2=1:=by kernel_rfl
 have c239:ah.cellsOf 239=8:=by kernel_rfl
 have hsz:cs.size=8:=by rw[c239]at hlen;simpa using hlen
 have e3:(xs.map (·.1))=wY.map fun n=>.lit (.int .i64 n):=(DataW.agg.inj (Prod.mk.inj ex).1).symm
 obtain⟨⟨c,ty,hc⟩,_⟩:=hfr 0 0 (by rw[hps];simp only[List.mem_append,MemPlace.row];exact bn (bn (List.mem_map.2 ⟨0,List.mem_range.2 om,rfl⟩)))
 have hcs:c=cs:=by
  unfold World.var? at hv;rw[hg]at hv;simp only[Option.bind_some,hc]at hv;exact eL.inj hv
 subst hcs;refine⟨ty,c,hc,hsz,fun r hr=>?_⟩;have hE:=hel r om;rw[c2,Nat.mul_one,bD om]at hE;obtain⟨z,e1,e2,_⟩:=DataW.trod_int underlying2 hE;have e4:(xs.map (·.1))[r]? = (wY.map fun n=>(DataW.lit (.int .i64 n):DataW Unit))[r]?:=by rw[e3]
 rw[mU,mU,bD (by omega:r<xs.length),bD (show r<wY.length from hr),e2]at e4
 have hz:z=wY.getD r 0:=by
  simp only[Option.map_some,eL.injEq,DataW.lit.injEq,Lit.int.injEq,true_and]at e4;rw[e4,List.getD,bD (show r<wY.length from hr)];rfl
 rw[<-hz];have h0:((c.toList.drop r).take 1)[0]?=some (.int .i64 z):=by rw[e1]<;>rfl
 simpa using h0
def Iv(ty:TypeId):St:=fun b=>if b=0 then some ⟨ty,1,8,fun j=>.int .i64 (wY.getD j 0)⟩else ae
theorem Ki(h:W.heap[0]?=some (.cells cs ty (0,0)))(f:cs.size=8)(d:∀r,r<8->cs[r]?=some (.int .i64 (wY.getD r 0))):dX W (Iv ty):=by
 intro b x a;unfold Iv at a;split at a
 ·rename_i e;subst e;cases a;refine⟨cs,h,by show 1*8<=cs.size;omega,fun j g=>⟨.int .i64 (wY.getD j 0),⟨by rw[jR];exact d j g,trivial⟩,by simp[bB]⟩,fun k y c=>?_⟩
  have i:k<8:=by rw[<-f];exact(ci.1 c).1
  rw[d k i]at c
  cases c;trivial
 ·cases a
theorem Iu(ty:TypeId):iT (Iv ty):=by
 refine⟨ty,_,by unfold Iv;rw[if_pos rfl],fun j a=>?_⟩
 rcases (om:j=0∨j=1∨j=2∨j=3∨j=4∨j=5∨j=6∨j=7)with rfl|rfl|rfl|rfl|rfl|rfl|rfl|rfl<;>rfl
def Ld(W:World)(v:Value)(n:Nat)(z:Nat->Int):Prop:=
 (∀i,i<n->-128<=z i/\z i<=127)/\(v=.slice ae 0 0/\n=0∨∃a cap,v=.slice (some a) n cap/\n<=cap/\∀i,i<n->W.cell? (a.add i)=some (.int .i8 (z i)))
theorem Fh{enc:TypeId×Value->H}{cs:List Value}{x:DataW H×List MemPlace}(h:DataW.trod enc ah W 0 (fun _=>true) hd fuel 22 cs=some x):∃v n z,cs=[v]/\Ld W v n z:=by
 rcases open_ints underlying22 underlying41 kr h with⟨b,_⟩|⟨a,len,cap,zs,b,_,d,_,e,_,f,g⟩
 ·exact⟨_,0,fun _=>0,b,fun i c=>absurd c om,bn ⟨rfl,rfl⟩⟩
 ·rw[if_pos rfl]at e;refine⟨_,len,fun i=>zs.getD i 0,b,fun i c=>?_,Or.inr ⟨a,cap,rfl,d,fun i c=>f i om⟩⟩;have j:zs.getD i 0∈zs:=by
   rw[List.getD_eq_getElem?_getD,bD om];exact List.getElem_mem _
  have:=g _ j;simp only[Lit.wf,bL,decide_eq_true_eq]at this;exact this
theorem Ld.rep(h:W.heap[0]?=some (.cells cs ty (0,0)))(x:cs.size=8)(y:∀r,r<8->cs[r]?=some (.int .i64 (wY.getD r 0))){v:Value}{n:Nat}{z:Nat->Int}(A:Ld W v n z) :
  bB W (Iv ty).dom (.lst 1 n (fun i=>.int .i8 (z i))) v:=by
 simp only[bB];rcases A.2 with⟨rfl,rfl⟩|⟨a,cap,rfl,B,u⟩
 ·exact⟨_,_,rfl,Nat.le_refl _,fun c=>absurd c om⟩
 ·refine⟨_,_,rfl,B,fun w=>?_⟩;obtain⟨b,off,sp⟩:=a;have c:=u 0 w;have g:sp=ae:=by
   cases sp with
   | none=>rfl
   | some s =>
    simp only[Addr.add,if_pos,World.cell?]at c;split at c
    ·simp at c
    ·cases c
  subst g;obtain⟨f,k,l,d,_⟩:=xP c;simp only[Addr.add,if_pos]at d;have cell:∀j,j<n->f[off+j]?=some (.int .i8 (z j)):=fun j m=>by
   have:=u j m;have e:(Addr.add ⟨b,off,ae⟩ j)=⟨b,off+j,ae⟩:=ia b off j;rw[e]at this;simp only[World.cell?,d]at this;simpa using this
  refine⟨b,off,rfl,dW d,fun o=>?_,fun j m=>⟨.int .i8 (z j),⟨f,k,l,d,by rw[jR];exact cell j m,trivial⟩,by simp[bB]⟩⟩
  have p:b=0:=by
   unfold St.dom Iv at o;by_cases e:b=0
   ·exact e
   ·rw[if_neg e]at o;exact absurd rfl o
  subst p;rw[h]at d
  cases d
  have q:=cell 0 w;have t:off+0<8:=by rw[<-x];exact(ci.1 q).1
  rw[y _ t]at q
  cases q
theorem Ld.cells(b:Ld W v n z):v.cells=#[v]:=by
 rcases b.2 with⟨rfl,_⟩|⟨a,cap,rfl,_⟩<;>rfl
theorem Gp{c0 c1:Value}(h:v.cells.toList=c0::c1::l):v=.agg (c0::c1::l).toArray:=by
 cases v with
 | agg xs =>
  simp only[Value.cells]at h;rw[<-h]
 | _=>simp[Value.cells]at h
theorem len6{cs:List Value}(h:cs.length=6):∃a b c d e f,cs=[a,b,c,d,e,f]:=by
 match cs,h with
 | [a,b,c,d,e,f],_=>exact⟨a,b,c,d,e,f,rfl⟩
theorem FY{enc:TypeId×Value->H}{d:DataW H}(h:DataW.Trod enc ah W 0 (fun _=>true) hd 27 v d ps) :
  ∃(j m o p:Nat) (s1 u:Value) (w z:Nat) (A z2:Nat->Int),j<256/\m<256/\o<256/\p<65536/\Ld W s1 w A/\Ld W u z z2/\v=.agg #[.int .u8 j,.int .u8 m,s1,u,.int .u8 o,.int .u16 p]:=by
 obtain⟨fuel,h⟩:=h;have B:ah.cellsOf 27=6:=by kernel_rfl
 have C:ah.cellsOf 24=4:=by kernel_rfl
 have D:ah.cellsOf 5=1:=by kernel_rfl
 have E:ah.cellsOf 25=1:=by kernel_rfl
 have f:ah.cellsOf 22=1:=by kernel_rfl
 have u8:∀{fuel:Nat} {c:Value} {x:DataW H×List MemPlace},DataW.trod enc ah W 0 (fun _=>true) hd fuel 5 [c]=some x->∃n:Nat,n<256/\c=.int .u8 n:=fun {fuel c x} h=>by
  obtain⟨n,e,_,b⟩:=DataW.trod_int underlying5 h
  cases e
  simp only[Lit.wf,bL,decide_eq_true_eq]at b;have F:IntKind.u8.min=0:=rfl;have G:IntKind.u8.max=255:=rfl;rw[F,G]at b;exact⟨n.toNat,om,by rw[eM b.1]⟩
 have u16:∀{fuel:Nat} {c:Value} {x:DataW H×List MemPlace},DataW.trod enc ah W 0 (fun _=>true) hd fuel 25 [c]=some x->∃n:Nat,n<65536/\c=.int .u16 n:=fun {fuel c x} h=>by
  obtain⟨n,e,_,b⟩:=DataW.trod_int underlying25 h
  cases e
  simp only[Lit.wf,bL,decide_eq_true_eq]at b;have F:IntKind.u16.min=0:=rfl;have G:IntKind.u16.max=65535:=rfl;rw[F,G]at b;exact⟨n.toNat,om,by rw[eM b.1]⟩
 have some_of:∀{α:Type} {l:List α} {i k:Nat},l.length=k->i<k->∃y,l[i]?=some y:=fun {α l i k} h1 h2=>⟨l[i]'om,bD om⟩;obtain⟨xs,n,_,_,a,I,q⟩:=DataW.trod_struct underlying27 h;rw[B]at a;generalize J:v.cells.toList=cs at a q;obtain⟨S,K,r,g,T,L,rfl⟩:=len6 a;have f0:DataW.trod enc ah W 0 (fun _=>true) hd n 24 (ti (ah.cellsOf 24) [S,K,r,g,T,L])=xs[0]?:=q 0 _ rfl;have f1:DataW.trod enc ah W 0 (fun _=>true) hd n 5 (ti (ah.cellsOf 5) [T,L])=xs[1]?:=q 1 _ rfl;have U:DataW.trod enc ah W 0 (fun _=>true) hd n 25 (ti (ah.cellsOf 25) [L])=xs[2]?:=q 2 _ rfl;obtain⟨y0,e0⟩:=some_of I (om:0<3)
 obtain⟨y1,e1⟩:=some_of I (om:1<3)
 obtain⟨y2,e2⟩:=some_of I (om:2<3)
 rw[C,e0]at f0;rw[D,e1]at f1;rw[E,e2]at U;obtain⟨o,hq,rfl⟩:=u8 f1;obtain⟨p,ht,rfl⟩:=u16 U;obtain⟨ys,n',_,_,_,s,t⟩:=DataW.trod_struct underlying24 f0;have V:DataW.trod enc ah W 0 (fun _=>true) hd n' 5 (ti (ah.cellsOf 5) [S,K,r,g])=ys[0]?:=t 0 _ rfl;have X:DataW.trod enc ah W 0 (fun _=>true) hd n' 5 (ti (ah.cellsOf 5) [K,r,g])=ys[1]?:=t 1 _ rfl;have Y:DataW.trod enc ah W 0 (fun _=>true) hd n' 22 (ti (ah.cellsOf 22) [r,g])=ys[2]?:=t 2 _ rfl;have Z:DataW.trod enc ah W 0 (fun _=>true) hd n' 22 (ti (ah.cellsOf 22) [g])=ys[3]?:=t 3 _ rfl;obtain⟨w0,i0⟩:=some_of s (om:0<4)
 obtain⟨w1,i1⟩:=some_of s (om:1<4)
 obtain⟨w2,i2⟩:=some_of s (om:2<4)
 obtain⟨w3,i3⟩:=some_of s (om:3<4)
 rw[D,i0]at V;rw[D,i1]at X;rw[f,i2]at Y;rw[f,i3]at Z;obtain⟨j,M,rfl⟩:=u8 V;obtain⟨m,N,rfl⟩:=u8 X;obtain⟨s1,w,A,O,P⟩:=Fh Y;obtain⟨u,z,z2,Q,R⟩:=Fh Z
 cases O;cases Q
 exact⟨j,m,o,p,_,_,w,z,A,z2,M,N,hq,ht,P,R,Gp J⟩
theorem Cv(D:laidMetH ah Rows.neighbourKeepsRow.laid W){a b c d:Nat}{s1 h:Value}{m n:Nat}{o z2:Nat->Int}(E:a<256)(p:b<256)(F:c<256)(G:d<65536)(q:Ld W s1 m o)(w:Ld W h n z2) :
  Calls ah 6 #[.agg #[.int .u8 a,.int .u8 b,s1,h,.int .u8 c,.int .u16 d]] W fun e W'=>e=.returned (.bool true)/\Below W.heap.size W W':=by
 obtain⟨ty,cs,g,s,l⟩:=D0 D;have H:=Ki g s l;have I:=q.rep g s l;have J:=w.rep g s l;have hargs:a6 W (Iv ty).dom [xQ a b m o n (fun i=>.int .i8 (z2 i)) c d] [.agg #[.int .u8 a,.int .u8 b,s1,h,.int .u8 c,.int .u16 d]]:=by
  simp only[a6];refine⟨?_,trivial⟩;unfold xQ;simp only[bB];refine⟨[.int .u8 a,.int .u8 b,s1,h,.int .u8 c,.int .u16 d],?_,?_⟩
  ·simp only[List.flatMap_cons,List.flatMap_nil,q.cells,w.cells];rfl
  ·simp only[a6];exact⟨by simp[bB],by simp[bB],I,J,by simp[bB],by simp[bB],trivial⟩
 refine(law6 (Iv ty) (Iu ty) a b m o n (fun i=>.int .i8 (z2 i)) c d E p F G q.1 W _ H hargs).mono ?_;rintro e w' ⟨u,r,S',rfl,⟨rfl,K⟩,x,t,f⟩;simp only[bB]at x;subst x;refine⟨rfl,f.os,f.tape,f.output,f.size,fun k p=>?_⟩;by_cases e:k=0
 ·subst e;have L:Iv ty 0=some ⟨ty,1,8,fun j=>.int .i64 (wY.getD j 0)⟩:=by unfold Iv;rw[if_pos rfl]
  obtain⟨cs',y,_,M,_⟩:=t 0 _ (K 0 _ L);obtain⟨N,z,O⟩:=f.shape 0 cs ty (0,0) g;rw[y]at z
  cases z
  rw[y,g];have:cs'=cs:=by
   apply Array.ext_getElem?;intro j;by_cases A:j<8
   ·obtain⟨u,⟨B,_⟩,C⟩:=M j A;simp only[bB]at C;rw[jR]at B;rw[B,l j A,C]
   ·rw[fu om,fu om]
  rw[this]
 ·exact f.keep k p (fun v=>by unfold St.dom Iv at v;rw[if_neg e]at v;exact v rfl)
theorem own:ownKnob ah.godebug=ae:=by kernel_rfl
theorem J5:laidOutB ah=true:=by kernel_rfl
theorem Mn(os:Os)(started:os.Started)(H:Type)(enc:TypeId×Value->H) :
  ReturnsInHanded {} Tryz.checked os 6 .any (fun w args=>(Rows.neighbourKeepsSpec.pre enc ah Tryz.f6 Rows.neighbourKeepsRow.domain false w args/\laidMetH ah Rows.neighbourKeepsRow.laid w)/\sizedMet enc ah Tryz.f6 (OpenSpec.ofChange Rows.neighbourKeepsSpec) false w args)
   (Rows.neighbourKeepsSpec.post enc ah Tryz.f6 false true false false):=by
 refine returnsInHanded_of_change_and (C:=Tryz.checked) (X:=fun w _=>laidMetH ah Rows.neighbourKeepsRow.laid w) (fun _ _ _ r h=>h.of_heap r) own started kr func6
  (ChangeSpec.witness_shaped (enc:=enc) (C:=Tryz.checked) (os:=os) (X:=fun w _=>laidMetH ah Rows.neighbourKeepsRow.laid w) false (World.laidAll ah os Rows.neighbourKeepsRow.laid) #[.agg #[.int .u8 0,.int .u8 0,.slice ae 0 0,.slice ae 0 0,.int .u8 0,.int .u16 0]] 8 (World.laidAll_os _ _ _)
   (World.shaped_of_ZipB kr kr) kr kr kr
   (by rw[MakeChecks.laidMetH_plain _ _ _ kr];exact laidMet_laidAll _ kr kr)) ?_
 intro W base args ds gs before a m _ _ s _;have f:=m;obtain⟨p,q,g,u,rfl,_,_⟩:=m;have n:DataW.TrodAll enc ah W 0 (fun _=>true) true Tryz.f6.params.toList args.toList ds p:=g;have b:∀(j:Nat) t v,Tryz.f6.params[j]?=some t->args[j]?=some v->Value.okWide ah W .any base t v:=a;rw[params6]at n b;obtain⟨v,d,rfl,rfl,i⟩:=trodAll_one n;obtain⟨rfl,rfl⟩:=trodVars_none u;obtain⟨F,G,I,J,s1,K,L,M,N,z2,y,z,A,B,k,l,rfl⟩:=FY i;have c:∀x∈p,x.block<W.heap.size:=by
  obtain⟨f1,h1f⟩:=i;exact fun x D=>DataW.trod_lt _ _ _ _ h1f x D
 refine(Cv s y z A B k l).mono fun e W' ⟨E,o⟩=>?_;subst E;refine⟨_,rfl,_,_,_,[],p,[],f,?_,?_,rfl,o.frame _,fun h=>by cases h⟩
 ·exact trodAll_mk1 (shut_bool underlying4 _)
 ·exact trodAll_mk1 (Below.trod J5 kr (of_decide_eq_true kr) i o c)
end Go.Proofs.YtdobfmlmenaajaaGreatDoor
