/-
  Lemmas for NeighbourVerify.
-/
import Derived.Test.YtdobfmlmenaajaaGreatDoorV34
import Derived.Test.YtdobfmlmenaajaaGreatDoorV36
import Derived.Test.YtdobfmlmenaajaaGreatDoorCards
import Derived.Test.YtdobfmlmenaajaaGreatDoorTie
import Derived.ProofKit
import Derived.OpenShut
import Derived.LaidMore
import Derived.Lay
import Derived.SevenTiedAt
import Derived.Carry
import Derived.Stop.Joined
namespace Go.Proofs.YtdobfmlmenaajaaGreatDoor
open _root_.Go.Proofs.Tryz
open _root_.List renaming cons→pm,take→vH
open _root_.Option renaming none→ab
open _root_.Go.Proofs.Tryz renaming prog→ai
open Value renaming int→dL
set_option maxHeartbeats 6400000
set_option maxRecDepth 4096
set_option linter.all false
variable{hd:Bool}{ps:List MemPlace}{l:List Value}{base fuel n:Nat}{z:Nat->Int}{H:Type}{ty:TypeId}{v:Value}{W:World}
open Go.ChangeShapes Go.WideShapes Go.ChangeAt Go.RowKit
def law4(S0:St)(e:lm S0)(d k L:Nat)(nums:Nat->Int)(Lb:Nat)(base:Nat->AV)(q t fd pt:Nat)(nn:Int)(f:d<256)(g:k<256)(j:q<256)(l:t<65536)(hnums:∀i,i<L->-128<=nums i/\nums i<=127)(a:fd<256)(b:pt<256)(c:-128<=nn/\nn<=127) :
  cZ 4 [AF d k L nums Lb base q t,.int .u8 fd,.int .u8 pt,.int .i8 nn] S0 (fun r S'=>r=.bool true/\fM S0 S') :=
 Le (fun S _=>(Iz S).mono fun r S' h=>⟨h.1,by rw[h.2];exact fM.refl S⟩) S0 e d k L nums Lb base q t fd pt nn f g j l hnums a b c
def zX:List Int:=[7,11,13,17,19,23,29,31]
def Ie(h:laidMetH ai Rows.neighbourVerifyRow.laid W):∃ty cs,W.heap[0]? = some (.cells cs ty (0,0))/\cs.size=8/\∀r,r<8->cs[r]? = some (.int .i64 (zX.getD r 0)):=by
 rw[MakeChecks.laidMetH_plain _ _ _ kr]at h
 obtain⟨ps,⟨g,t,cs,fuel,p,q,hg,ht,hv,hd,_,hps⟩,_,hfr⟩:=h
 obtain rfl := jS ((show ai.globalNamed "quadform/prime.offsets" = some 0 by kernel_rfl).symm.trans hg)
 obtain rfl:=jS ((show(ai.globals[0]?).map (·.type)=some 239 by kernel_rfl).symm.trans ht)
 obtain⟨xs,m,_,ex,hlen,hl,hel⟩:=DataW.trod_array underlying239 hd;have c2:ai.cellsOf 2=1:=by kernel_rfl
 have c239:ai.cellsOf 239=8:=by kernel_rfl
 have hsz:cs.size=8:=by rw[c239]at hlen;simpa using hlen
 have e3:(xs.map (·.1))=zX.map fun n=>.lit (.int .i64 n):=(DataW.agg.inj (Prod.mk.inj ex).1).symm
 obtain⟨⟨c,ty,hc⟩,_⟩:=hfr 0 0 (by rw[hps];simp only[Kk,MemPlace.row];exact bW (bW (im.2 ⟨0,fS.2 om,rfl⟩)))
 have hcs:c=cs:=by
  unfold World.var? at hv;rw[hg]at hv;simp only[dJ,hc]at hv;exact jS hv
 subst hcs;refine⟨ty,c,hc,hsz,fun r hr=>?_⟩;have hE:=hel r om;rw[c2,yU,bE om]at hE;obtain⟨z,e1,e2,_⟩:=sG US hE;have e4:(xs.map (·.1))[r]? = (zX.map fun n=>(DataW.lit (.int .i64 n):DataW Unit))[r]?:=by rw[e3]
 rw[lD,lD,bE (by omega:r<xs.length),bE (show r<zX.length from hr),e2]at e4
 have hz:z=zX.getD r 0:=by
  simp only[cV,fv,DataW.lit.injEq,Lit.int.injEq,kv]at e4;rw[e4,List.getD,bE (show r<zX.length from hr)];rfl
 rw[<-hz];have h0:((c.toList.drop r).take 1)[0]? = some (.int .i64 z):=by rw[e1]<;>rfl
 simpa using h0
def NU(ty:TypeId):St:=fun b=>if b=0 then some ⟨ty,1,8,fun j=>.int .i64 (zX.getD j 0)⟩else ab
def Qj{cs:Array Value}(h:W.heap[0]? = some (.cells cs ty (0,0)))(f:cs.size=8)(d:∀r,r<8->cs[r]? = some (.int .i64 (zX.getD r 0))):fI W (NU ty):=by
 intro b x a;unfold NU at a;split at a
 .rename_i e;subst e;cases a;refine⟨cs,h,by show 1*8<=cs.size;omega,fun j g=>⟨.int .i64 (zX.getD j 0),⟨by rw[kQ];exact d j g,trivial⟩,by simp[bM]⟩,fun k y c=>?_⟩
  have i:k<8:=by rw[<-f];exact(er.1 c).1
  rw[d k i]at c
  cases c;trivial
 .cases a
def NT(ty:TypeId):lm (NU ty):=by
 refine⟨ty,_,by unfold NU;rw[ah rfl],fun j a=>?_⟩
 rcases (om:j=0∨j=1∨j=2∨j=3∨j=4∨j=5∨j=6∨j=7)with rfl|rfl|rfl|rfl|rfl|rfl|rfl|rfl<;>rfl
def Rq(W:World)(v:Value)(n:Nat)(z:Nat->Int):Prop :=
 (∀i,i<n->-128<=z i/\z i<=127)/\(v=.slice ab 0 0/\n=0∨∃a cap,v=.slice (some a) n cap/\n<=cap/\∀i,i<n->W.cell? (a.add i)=some (.int .i8 (z i)))
def JK{enc:TypeId×Value->H}{cs:List Value}{x:DataW H×List MemPlace}(h:DataW.trod enc ai W 0 (fun _=>true) hd fuel 22 cs=some x):∃v n z,cs=[v]/\Rq W v n z:=by
 rcases open_ints underlying22 Sn kr h with⟨b,_⟩|⟨a,len,cap,zs,b,_,d,_,e,_,f,g⟩
 .exact⟨_,0,fun _=>0,b,fun i c=>absurd c om,bW ⟨rfl,rfl⟩⟩
 .rw[ah rfl]at e;refine⟨_,len,fun i=>zs.getD i 0,b,fun i c=>?_,bQ ⟨a,cap,rfl,d,fun i c=>f i om⟩⟩;have j:zs.getD i 0∈zs:=by
   rw[io,bE om];exact GM _
  have:=g _ j;simp only[Lit.wf,ay,dj]at this;exact this
def Rq.rep{cs:Array Value}(h:W.heap[0]? = some (.cells cs ty (0,0)))(x:cs.size=8)(y:∀r,r<8->cs[r]? = some (.int .i64 (zX.getD r 0))){v:Value}{n:Nat}{z:Nat->Int}(A:Rq W v n z) :
  bM W (NU ty).dom (.lst 1 n (fun i=>.int .i8 (z i))) v:=by
 simp only[bM];rcases A.2 with⟨rfl,rfl⟩|⟨a,cap,rfl,B,u⟩
 .exact⟨_,_,rfl,ae _,fun c=>absurd c om⟩
 .refine⟨_,_,rfl,B,fun w=>?_⟩;obtain⟨b,off,sp⟩:=a;have c:=u 0 w;have g:sp=ab:=by
   cases sp with
   | none=>rfl
   | some s =>
    simp only[Addr.add,ah,World.cell?]at c;split at c
    .simp at c
    .cases c
  subst g;obtain⟨f,k,l,d,_⟩:=AE c;simp only[Addr.add,ah]at d;have cell:∀j,j<n->f[off+j]? = some (.int .i8 (z j)):=fun j m=>by
   have:=u j m;have e:(Addr.add ⟨b,off,ab⟩ j)=⟨b,off+j,ab⟩:=iU b off j;rw[e]at this;simp only[World.cell?,d]at this;simpa using this
  refine⟨b,off,rfl,gJ d,fun o=>?_,fun j m=>⟨.int .i8 (z j),⟨f,k,l,d,by rw[kQ];exact cell j m,trivial⟩,by simp[bM]⟩⟩
  have p:b=0:=by
   unfold St.dom NU at o;by_cases e:b=0
   .exact e
   .rw[af e]at o;exact absurd rfl o
  subst p;rw[h]at d
  cases d
  have q:=cell 0 w;have t:off+0<8:=by rw[<-x];exact(er.1 q).1
  rw[y _ t]at q
  cases q
def Rq.cells(b:Rq W v n z):v.cells=#[v]:=by
 rcases b.2 with⟨rfl,_⟩|⟨a,cap,rfl,_⟩<;>rfl
def Lw{c0 c1:Value}(h:v.cells.toList=c0::c1::l):v=.agg (c0::c1::l).toArray:=by
 cases v with
 | agg xs =>
  simp only[Value.cells]at h;rw[<-h]
 | _=>simp[Value.cells]at h
def len6{cs:List Value}(h:cs.length=6):∃a b c d e f,cs=[a,b,c,d,e,f]:=by
 match cs,h with
 | [a,b,c,d,e,f],_=>exact⟨a,b,c,d,e,f,rfl⟩
def K0{enc:TypeId×Value->H}{d:DataW H}(h:DataW.Trod enc ai W 0 (fun _=>true) hd 27 v d ps) :
  ∃(j m o p:Nat) (u w:Value) (z A:Nat) (B z2:Nat->Int),j<256/\m<256/\o<256/\p<65536/\Rq W u z B/\Rq W w A z2/\v=.agg #[.int .u8 j,.int .u8 m,u,w,.int .u8 o,.int .u16 p]:=by
 obtain⟨fuel,h⟩:=h;have C:ai.cellsOf 27=6:=by kernel_rfl
 have D:ai.cellsOf 24=4:=by kernel_rfl
 have E:ai.cellsOf 5=1:=by kernel_rfl
 have F:ai.cellsOf 25=1:=by kernel_rfl
 have f:ai.cellsOf 22=1:=by kernel_rfl
 have u8:∀{fuel:Nat} {c:Value} {x:DataW H×List MemPlace},DataW.trod enc ai W 0 (fun _=>true) hd fuel 5 [c]=some x->∃n:Nat,n<256/\c=.int .u8 n:=fun {fuel c x} h=>by
  obtain⟨n,e,_,b⟩:=sG UQ h
  cases e
  simp only[Lit.wf,ay,dj]at b;have G:IntKind.u8.min=0:=rfl;have I:IntKind.u8.max=255:=rfl;rw[G,I]at b;exact⟨n.toNat,om,by rw[dO b.1]⟩
 have u16:∀{fuel:Nat} {c:Value} {x:DataW H×List MemPlace},DataW.trod enc ai W 0 (fun _=>true) hd fuel 25 [c]=some x->∃n:Nat,n<65536/\c=.int .u16 n:=fun {fuel c x} h=>by
  obtain⟨n,e,_,b⟩:=sG underlying25 h
  cases e
  simp only[Lit.wf,ay,dj]at b;have G:IntKind.u16.min=0:=rfl;have I:IntKind.u16.max=65535:=rfl;rw[G,I]at b;exact⟨n.toNat,om,by rw[dO b.1]⟩
 have some_of:∀{α:Type} {l:List α} {i k:Nat},l.length=k->i<k->∃y,l[i]? = some y:=fun {α l i k} h1 h2=>⟨l[i]'om,bE om⟩;obtain⟨xs,n,_,_,a,J,q⟩:=VN underlying27 h;rw[C]at a;generalize K:v.cells.toList=cs at a q;obtain⟨T,L,r,g,U,M,rfl⟩:=len6 a;have V:DataW.trod enc ai W 0 (fun _=>true) hd n 24 (vH (ai.cellsOf 24) [T,L,r,g,U,M])=xs[0]?:=q 0 _ rfl;have X:DataW.trod enc ai W 0 (fun _=>true) hd n 5 (vH (ai.cellsOf 5) [U,M])=xs[1]?:=q 1 _ rfl;have Y:DataW.trod enc ai W 0 (fun _=>true) hd n 25 (vH (ai.cellsOf 25) [M])=xs[2]?:=q 2 _ rfl;obtain⟨y0,e0⟩:=some_of J (om:0<3)
 obtain⟨y1,e1⟩:=some_of J (om:1<3)
 obtain⟨y2,e2⟩:=some_of J (om:2<3)
 rw[D,e0]at V;rw[E,e1]at X;rw[F,e2]at Y;obtain⟨o,hq,rfl⟩:=u8 X;obtain⟨p,ht,rfl⟩:=u16 Y;obtain⟨ys,n',_,_,_,s,t⟩:=VN underlying24 V;have Z:DataW.trod enc ai W 0 (fun _=>true) hd n' 5 (vH (ai.cellsOf 5) [T,L,r,g])=ys[0]?:=t 0 _ rfl;have g1:DataW.trod enc ai W 0 (fun _=>true) hd n' 5 (vH (ai.cellsOf 5) [L,r,g])=ys[1]?:=t 1 _ rfl;have g2:DataW.trod enc ai W 0 (fun _=>true) hd n' 22 (vH (ai.cellsOf 22) [r,g])=ys[2]?:=t 2 _ rfl;have g3:DataW.trod enc ai W 0 (fun _=>true) hd n' 22 (vH (ai.cellsOf 22) [g])=ys[3]?:=t 3 _ rfl;obtain⟨w0,i0⟩:=some_of s (om:0<4)
 obtain⟨w1,i1⟩:=some_of s (om:1<4)
 obtain⟨w2,i2⟩:=some_of s (om:2<4)
 obtain⟨w3,i3⟩:=some_of s (om:3<4)
 rw[E,i0]at Z;rw[E,i1]at g1;rw[f,i2]at g2;rw[f,i3]at g3;obtain⟨j,N,rfl⟩:=u8 Z;obtain⟨m,O,rfl⟩:=u8 g1;obtain⟨u,z,B,P,Q⟩:=JK g2;obtain⟨w,A,z2,R,S⟩:=JK g3
 cases P;cases R
 exact⟨j,m,o,p,_,_,z,A,B,z2,N,O,hq,ht,Q,S,Lw K⟩
def JJ{enc:TypeId×Value->H}{d:DataW H}(a:Value.okWide ai W .any base 5 v)(h:DataW.Trod enc ai W 0 (fun _=>true) hd 5 v d ps):∃n:Nat,n<256/\v=.int .u8 n:=by
 obtain⟨x,rfl⟩:=okWide_int UQ a;obtain⟨fuel,h⟩:=h;obtain⟨n,e,_,b⟩:=sG UQ h;obtain rfl:x=n:=(dL.inj (pm.inj e).1).2;simp only[Lit.wf,ay,dj]at b;have c:IntKind.u8.min=0:=rfl;have f:IntKind.u8.max=255:=rfl;rw[c,f]at b;exact⟨x.toNat,om,by rw[dO b.1]⟩
def Nk{enc:TypeId×Value->H}{d:DataW H}(a:Value.okWide ai W .any base 41 v)(h:DataW.Trod enc ai W 0 (fun _=>true) hd 41 v d ps):∃n:Int,(-128<=n/\n<=127)/\v=.int .i8 n:=by
 obtain⟨x,rfl⟩:=okWide_int Sn a;obtain⟨fuel,h⟩:=h;obtain⟨n,e,_,b⟩:=sG Sn h;obtain rfl:x=n:=(dL.inj (pm.inj e).1).2;simp only[Lit.wf,ay,dj]at b;have c:IntKind.i8.min=-128:=rfl;have f:IntKind.i8.max=127:=rfl;rw[c,f]at b;exact⟨x,b,rfl⟩
def C4(H:laidMetH ai Rows.neighbourVerifyRow.laid W){a b c d:Nat}{h l:Value}{n o:Nat}{p z2:Nat->Int}(I:a<256)(q:b<256)(J:c<256)(K:d<65536)(s:Rq W h n p)(A:Rq W l o z2){fd pt:Nat}{nn:Int}(t:fd<256)(v:pt<256)(w:-128<=nn/\nn<=127) :
  Calls ai 4 #[.agg #[.int .u8 a,.int .u8 b,h,l,.int .u8 c,.int .u16 d],.int .u8 fd,.int .u8 pt,.int .i8 nn] W fun e W'=>e=.returned (.bool true)/\Below W.heap.size W W':=by
 obtain⟨ty,cs,g,x,m⟩:=Ie H;have L:=Qj g x m;have M:=s.rep g x m;have N:=A.rep g x m;have hargs:a6 W (NU ty).dom [AF a b n p o (fun i=>.int .i8 (z2 i)) c d,.int .u8 fd,.int .u8 pt,.int .i8 nn] [.agg #[.int .u8 a,.int .u8 b,h,l,.int .u8 c,.int .u16 d],.int .u8 fd,.int .u8 pt,.int .i8 nn]:=by
  simp only[a6];refine⟨?_,by simp[bM],by simp[bM],by simp[bM],trivial⟩
  unfold AF;simp only[bM];refine⟨[.int .u8 a,.int .u8 b,h,l,.int .u8 c,.int .u16 d],?_,?_⟩
  .simp only[dF,GN,s.cells,A.cells];rfl
  .simp only[a6];exact⟨by simp[bM],by simp[bM],M,N,by simp[bM],by simp[bM],trivial⟩
 refine(law4 (NU ty) (NT ty) a b n p o (fun i=>.int .i8 (z2 i)) c d fd pt nn I q J K s.1 t v w W _ L hargs).mono ?_;rintro e w' ⟨u,r,S',rfl,⟨rfl,O⟩,B,y,f⟩;simp only[bM]at B;subst B;refine⟨rfl,f.os,f.tape,f.output,f.size,fun k q=>?_⟩;by_cases e:k=0
 .subst e;have P:NU ty 0=some ⟨ty,1,8,fun j=>.int .i64 (zX.getD j 0)⟩:=by unfold NU;rw[ah rfl]
  obtain⟨cs',C,_,Q,_⟩:=y 0 _ (O 0 _ P);obtain⟨R,D,S⟩:=f.shape 0 cs ty (0,0) g;rw[C]at D
  cases D
  rw[C,g];have:cs'=cs:=by
   apply nj;intro j;by_cases E:j<8
   .obtain⟨u,⟨F,_⟩,G⟩:=Q j E;simp only[bM]at G;rw[kQ]at F;rw[F,m j E,G]
   .rw[eN om,eN om]
  rw[this]
 .exact f.keep k q (fun z=>by unfold St.dom NU at z;rw[af e]at z;exact z rfl)
def own:ownKnob ai.godebug=ab:=by kernel_rfl
def yI:laidOutB ai=true:=by kernel_rfl
def Tl(os:Os)(started:os.Started)(H:Type)(enc:TypeId×Value->H) :
  ReturnsInHanded {} Tryz.checked os 4 .any (fun w args=>(Rows.neighbourVerifySpec.pre enc ai Tryz.f4 Rows.neighbourVerifyRow.domain false w args/\laidMetH ai Rows.neighbourVerifyRow.laid w)/\sizedMet enc ai Tryz.f4 (OpenSpec.ofChange Rows.neighbourVerifySpec) false w args)
   (Rows.neighbourVerifySpec.post enc ai Tryz.f4 false true false false):=by
 refine returnsInHanded_of_change_and (C:=Tryz.checked) (X:=fun w _=>laidMetH ai Rows.neighbourVerifyRow.laid w) (fun _ _ _ B h=>h.of_heap B) own started kr Vs
  (ChangeSpec.witness_shaped (enc:=enc) (C:=Tryz.checked) (os:=os) (X:=fun w _=>laidMetH ai Rows.neighbourVerifyRow.laid w) false (World.laidAll ai os Rows.neighbourVerifyRow.laid) #[.agg #[.int .u8 0,.int .u8 0,.slice ab 0 0,.slice ab 0 0,.int .u8 0,.int .u16 0],.int .u8 0,.int .u8 0,.int .i8 0] 8 (World.laidAll_os _ _ _)
   (World.shaped_of_ZipB kr kr) kr kr kr
   (by rw[MakeChecks.laidMetH_plain _ _ _ kr];exact laidMet_laidAll _ kr kr)) ?_
 intro W base args ds gs before c z _ _ D _;have f:=z;obtain⟨p,q,i,E,rfl,_,_⟩:=z;have A:DataW.TrodAll enc ai W 0 (fun _=>true) true Tryz.f4.params.toList args.toList ds p:=i;have a:∀(j:Nat) t v,Tryz.f4.params[j]? = some t->args[j]? = some v->Value.okWide ai W .any base t v:=c;rw[params4]at A a;obtain⟨v,v',v'',F,d,d',d'',R,G,I,J,K,rfl,rfl,rfl,k,l,m,n⟩:=trodAll_four A;obtain⟨rfl,rfl⟩:=trodVars_none E;obtain⟨S,T,U,V,Y,Z,n1,n2,z1,z2,L,M,N,O,o,r,rfl⟩:=K0 k;obtain⟨fd,s,rfl⟩:=JJ (a 1 5 v' rfl rfl) l;obtain⟨pt,u,rfl⟩:=JJ (a 2 5 v'' rfl rfl) m;obtain⟨nn,y,rfl⟩:=Nk (a 3 41 F rfl rfl) n;have b:∀{t:TypeId} {v:Value} {d:DataW H} {p:List MemPlace},DataW.Trod enc ai W 0 (fun _=>true) true t v d p->∀x∈p,x.block<W.heap.size:=fun⟨_,h⟩ x P=>DataW.trod_lt _ _ _ _ h x P;refine(C4 D L M N O o r s u y).mono fun e W' ⟨Q,g⟩=>?_;subst Q;rw[EJ,EJ]at f;refine⟨_,rfl,_,_,_,[],G++(I++(J++K)),[],f,?_,?_,rfl,g.frame _,fun h=>by cases h⟩
 .exact trodAll_mk1 (shut_bool UR _)
 .exact trodAll_mk4 (Vw yI kr (lA kr) k g (b k)) (Vw yI kr (lA kr) l g (b l)) (Vw yI kr (lA kr) m g (b m)) (Vw yI kr (lA kr) n g (b n))

end Go.Proofs.YtdobfmlmenaajaaGreatDoor
