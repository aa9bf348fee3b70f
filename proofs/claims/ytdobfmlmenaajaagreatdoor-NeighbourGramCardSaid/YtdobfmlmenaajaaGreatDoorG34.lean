/-
  Lemmas for NeighbourGram.
-/
import Derived.Test.YtdobfmlmenaajaaGreatDoorG31
import Derived.Test.YtdobfmlmenaajaaGreatDoorG33
import Derived.Test.YtdobfmlmenaajaaGreatDoorCards
import Derived.Test.YtdobfmlmenaajaaGreatDoorTie
import Derived.ProofKit
import Derived.OpenShut
import Derived.LaidMore
import Derived.Lay
import Derived.SevenTiedAt
import Derived.Carry
import Derived.Stop.Joined
namespace Go.Proofs.YtdobfmlmenaajaaGreatDoor
open _root_.Go.Proofs.Tryz
open _root_.List renaming cons→oq,take→tQ
open _root_.Option renaming none→ab
open _root_.Go.Proofs.Tryz renaming prog→ah
open Value renaming slice→ao
set_option maxHeartbeats 6400000
set_option maxRecDepth 4096
set_option linter.all false
variable{hd:Bool}{k:IntKind}{ps:List MemPlace}{l:List Value}{fuel m n:Nat}{z:Nat->Int}{len:Nat->Nat}{H:Type}{v:Value}{W:World}{A:aJ}
open Go.ChangeShapes Go.WideShapes Go.ChangeAt Go.RowKit
def GE(h:laidMetH ah Rows.neighbourGramRow.laid W):tV W:=by
 rw[MakeChecks.laidMetH_plain _ _ _ kr]at h
 obtain⟨ps,⟨g,t,cs,fuel,p,q,hg,ht,hv,hd,_,hps⟩,_,hfr⟩:=h
 obtain rfl := ku ((show ah.globalNamed "quadform/prime.offsets" = some 0 by kernel_rfl).symm.trans hg)
 obtain rfl:=ku ((show(ah.globals[0]?).map (·.type)=some 239 by kernel_rfl).symm.trans ht)
 obtain⟨xs,m,_,ex,hlen,hl,hel⟩:=DataW.trod_array underlying239 hd;have c2:ah.cellsOf 2=1:=by kernel_rfl
 have c239:ah.cellsOf 239=8:=by kernel_rfl
 have hsz:cs.size=8:=by rw[c239]at hlen;simpa using hlen
 have e3:(xs.map (·.1))=uP.map fun n=>.lit (.int .i64 n):=(DataW.agg.inj (Prod.mk.inj ex).1).symm
 obtain⟨⟨c,ty,hc⟩,_⟩:=hfr 0 0 (by rw[hps];simp only[I2,MemPlace.row];exact bM (bM (gN.2 ⟨0,iY.2 om,rfl⟩)))
 have hcs:c=cs:=by
  unfold World.var? at hv;rw[hg]at hv;simp only[dp,hc]at hv;exact ku hv
 subst hcs;refine⟨c,ty,hc,fun r hr=>?_⟩;have hE:=hel r om;rw[c2,rc,aY om]at hE;obtain⟨z,e1,e2,_⟩:=PV mT hE;have e4:(xs.map (·.1))[r]? = (uP.map fun n=>(DataW.lit (.int .i64 n):DataW Unit))[r]?:=by rw[e3]
 rw[kQ,kQ,aY (by omega:r<xs.length),aY (show r<uP.length from hr),e2]at e4
 have hz:z=uP.getD r 0:=by
  simp only[dd,eG,DataW.lit.injEq,Lit.int.injEq,jO]at e4;rw[e4,List.getD,aY (show r<uP.length from hr)];rfl
 rw[<-hz];have h0:((c.toList.drop r).take 1)[0]? = some (.int .i64 z):=by rw[e1]<;>rfl
 simpa using h0
def R4(W:World)(v:Value)(n:Nat)(P:Nat->Value->Prop):Prop:=v=.slice ab 0 0/\n=0∨∃a cap,v=.slice (some a) n cap/\n<=cap/\∀i,i<n->∃u,W.cell? (a.add i)=some u/\P i u
def M4(k:IntKind)(W:World)(v:Value)(n:Nat)(z:Nat->Int):Prop:=R4 W v n (fun i u=>u=.int k (z i))
def R4.rep{P:Nat->Value->Prop}(t:R4 W v n P)(g:Nat->AV)(h:∀i u,i<n->P i u->one u/\bn W St.none.dom (g i) u):bn W St.none.dom (.lst 1 n g) v:=by
 simp only[bn];rcases t with⟨rfl,rfl⟩|⟨a,cap,rfl,w,q⟩
 .exact⟨_,_,rfl,ae _,fun c=>absurd c om⟩
 .refine⟨_,_,rfl,w,fun x=>?_⟩;obtain⟨b,off,sp⟩:=a;obtain⟨z,c,_⟩:=q 0 x;have f:sp=ab:=by
   cases sp with
   | none=>rfl
   | some s =>
    simp only[Addr.add,ai,World.cell?]at c;split at c
    .simp at c
    .cases c
  subst f;obtain⟨k,l,m,d,_⟩:=zF c;simp only[Addr.add,ai]at d;refine⟨b,off,rfl,fP d,fun y=>y rfl,fun j o=>?_⟩;obtain⟨u,p,r⟩:=q j o;have e:(Addr.add ⟨b,off,ab⟩ j)=⟨b,off+j,ab⟩:=iy b off j;rw[e]at p;simp only[World.cell?,d]at p;exact⟨u,⟨k,l,m,d,by rw[mA];exact⟨by simpa using p,(h j u o r).1⟩⟩,(h j u o r).2⟩
def M4.rep(a:M4 k W v n z):bn W St.none.dom (.lst 1 n (fun i=>.int k (z i))) v :=
 R4.rep a _ fun i u _ e=>by subst e;exact⟨trivial,by simp[bn]⟩
def R4.cells{P:Nat->Value->Prop}(b:R4 W v n P):v.cells=#[v]/\one v:=by
 rcases b with⟨rfl,_⟩|⟨a,cap,rfl,_⟩<;>exact⟨rfl,trivial⟩
def CD{enc:TypeId×Value->H}{t e:Nat}{cs:List Value}{x:DataW H×List MemPlace}(d:ah.underlying t=some (.slice e))(f:ah.underlying e=some (.int k))(g:ah.cellsOf e=1)
  (h:DataW.trod enc ah W 0 (fun _=>true) hd fuel t cs=some x):∃v n z,cs=[v]/\(∀i,i<n->(Lit.int k (z i)).wf=true)/\M4 k W v n z:=by
 rcases open_ints d f g h with⟨b,_⟩|⟨a,len,cap,zs,b,_,j,_,l,_,m,o⟩
 .exact⟨_,0,fun _=>0,b,fun i c=>absurd c om,bM ⟨rfl,rfl⟩⟩
 .rw[ai rfl]at l;refine⟨_,len,fun i=>zs.getD i 0,b,fun i c=>o _ ?_,bO ⟨a,cap,rfl,j,fun i c=>⟨_,m i om,rfl⟩⟩⟩;show zs.getD i 0∈zs;rw[gO,aY om];exact FM _
def SlM(W:World)(v:Value)(m:Nat)(len:Nat->Nat)(A:aJ):Prop:=(∀i j,i<m->j<len i->Dn (A i j))/\R4 W v m (fun i u=>M4 .i64 W u (len i) (A i))
def SlM.rep(h:SlM W v m len A):bn W St.none.dom (jH m len A) v :=
 h.2.rep _ fun i u _ a=>⟨a.cells.2,M4.rep a⟩
def LU{enc:TypeId×Value->H}{cs:List Value}{x:DataW H×List MemPlace}(h:DataW.trod enc ah W 0 (fun _=>true) hd fuel 28 cs=some x):∃v m len A,cs=[v]/\SlM W v m len A:=by
 rcases DataW.trod_slice underlying28 h with⟨c,_⟩|⟨a,n,cap,el,rs,f,_,c,_,_,k,_,y,o,_⟩
 .exact⟨_,0,fun _=>0,fun _ _=>0,c,fun i j b=>absurd b om,bM ⟨rfl,rfl⟩⟩
 .have d:ah.cellsOf 29=1:=by kernel_rfl
  have row:∀i,∃p:Value×Nat×(Nat->Int),i<n->W.cell? (a.add i)=some p.1/\(∀j,j<p.2.1->(Lit.int .i64 (p.2.2 j)).wf=true)/\M4 .i64 W p.1 p.2.1 p.2.2:=fun i=>by
   by_cases b:i<n
   .have g:=o i b;rw[aY om,d,rc,Option.bind_eq_some_iff]at g;obtain⟨cs',q,r⟩:=g;obtain⟨u,l,z,rfl,s,t⟩:=CD underlying29 mT kr r
    exact⟨(u,l,z),fun _=>⟨cell_of_cells?_one q,s,t⟩⟩
   .exact⟨(.slice ab 0 0,0,fun _=>0),fun h=>absurd h b⟩
  obtain⟨p,e⟩:=Classical.axiomOfChoice row;refine⟨_,n,fun i=>(p i).2.1,fun i=>(p i).2.2,c,fun i j b w=>bounds_i64 ((e i b).2.1 j w),bO ⟨a,cap,rfl,k,fun i b=>⟨_,(e i b).1,(e i b).2.2⟩⟩⟩
def J3{c0 c1:Value}(h:v.cells.toList=c0::c1::l):v=.agg (c0::c1::l).toArray:=by
 cases v with
 | agg xs =>
  simp only[Value.cells]at h;rw[<-h]
 | _=>simp[Value.cells]at h
def len6{cs:List Value}(h:cs.length=6):∃a b c d e f,cs=[a,b,c,d,e,f]:=by
 match cs,h with
 | [a,b,c,d,e,f],_=>exact⟨a,b,c,d,e,f,rfl⟩
def JC{enc:TypeId×Value->H}{d:DataW H}(h:DataW.Trod enc ah W 0 (fun _=>true) hd 27 v d ps) :
  ∃(j m o p:Nat) (z A:Value) (q B:Nat) (r z2:Nat->Int),j<256/\m<256/\o<256/\p<65536/\((∀i,i<q->(Lit.int .i8 (r i)).wf=true)/\M4 .i8 W z q r)/\M4 .i8 W A B z2/\v=.agg #[.int .u8 j,.int .u8 m,z,A,.int .u8 o,.int .u16 p]:=by
 obtain⟨fuel,h⟩:=h;have C:ah.cellsOf 27=6:=by kernel_rfl
 have D:ah.cellsOf 24=4:=by kernel_rfl
 have E:ah.cellsOf 5=1:=by kernel_rfl
 have F:ah.cellsOf 25=1:=by kernel_rfl
 have f:ah.cellsOf 22=1:=by kernel_rfl
 have u8:∀{fuel:Nat} {c:Value} {x:DataW H×List MemPlace},DataW.trod enc ah W 0 (fun _=>true) hd fuel 5 [c]=some x->∃n:Nat,n<256/\c=.int .u8 n:=fun {fuel c x} h=>by
  obtain⟨n,e,_,b⟩:=PV underlying5 h
  cases e
  simp only[Lit.wf,au,fS]at b;have G:IntKind.u8.min=0:=rfl;have I:IntKind.u8.max=255:=rfl;rw[G,I]at b;exact⟨n.toNat,om,by rw[cL b.1]⟩
 have u16:∀{fuel:Nat} {c:Value} {x:DataW H×List MemPlace},DataW.trod enc ah W 0 (fun _=>true) hd fuel 25 [c]=some x->∃n:Nat,n<65536/\c=.int .u16 n:=fun {fuel c x} h=>by
  obtain⟨n,e,_,b⟩:=PV underlying25 h
  cases e
  simp only[Lit.wf,au,fS]at b;have G:IntKind.u16.min=0:=rfl;have I:IntKind.u16.max=65535:=rfl;rw[G,I]at b;exact⟨n.toNat,om,by rw[cL b.1]⟩
 have some_of:∀{α:Type} {l:List α} {i k:Nat},l.length=k->i<k->∃y,l[i]? = some y:=fun {α l i k} h1 h2=>⟨l[i]'om,aY om⟩;obtain⟨xs,n,_,_,a,J,s⟩:=TO underlying27 h;rw[C]at a;generalize K:v.cells.toList=cs at a s;obtain⟨U,L,t,g,V,M,rfl⟩:=len6 a;have X:DataW.trod enc ah W 0 (fun _=>true) hd n 24 (tQ (ah.cellsOf 24) [U,L,t,g,V,M])=xs[0]?:=s 0 _ rfl;have Y:DataW.trod enc ah W 0 (fun _=>true) hd n 5 (tQ (ah.cellsOf 5) [V,M])=xs[1]?:=s 1 _ rfl;have Z:DataW.trod enc ah W 0 (fun _=>true) hd n 25 (tQ (ah.cellsOf 25) [M])=xs[2]?:=s 2 _ rfl;obtain⟨y0,e0⟩:=some_of J (om:0<3)
 obtain⟨y1,e1⟩:=some_of J (om:1<3)
 obtain⟨y2,e2⟩:=some_of J (om:2<3)
 rw[D,e0]at X;rw[E,e1]at Y;rw[F,e2]at Z;obtain⟨o,hq,rfl⟩:=u8 Y;obtain⟨p,ht,rfl⟩:=u16 Z;obtain⟨ys,n',_,_,_,u,w⟩:=TO underlying24 X;have g0:DataW.trod enc ah W 0 (fun _=>true) hd n' 5 (tQ (ah.cellsOf 5) [U,L,t,g])=ys[0]?:=w 0 _ rfl;have g1:DataW.trod enc ah W 0 (fun _=>true) hd n' 5 (tQ (ah.cellsOf 5) [L,t,g])=ys[1]?:=w 1 _ rfl;have g2:DataW.trod enc ah W 0 (fun _=>true) hd n' 22 (tQ (ah.cellsOf 22) [t,g])=ys[2]?:=w 2 _ rfl;have g3:DataW.trod enc ah W 0 (fun _=>true) hd n' 22 (tQ (ah.cellsOf 22) [g])=ys[3]?:=w 3 _ rfl;obtain⟨w0,i0⟩:=some_of u (om:0<4)
 obtain⟨w1,i1⟩:=some_of u (om:1<4)
 obtain⟨w2,i2⟩:=some_of u (om:2<4)
 obtain⟨w3,i3⟩:=some_of u (om:3<4)
 rw[E,i0]at g0;rw[E,i1]at g1;rw[f,i2]at g2;rw[f,i3]at g3;obtain⟨j,N,rfl⟩:=u8 g0;obtain⟨m,O,rfl⟩:=u8 g1;obtain⟨z,q,r,P,Q,R⟩:=CD underlying22 underlying41 kr g2
 obtain⟨A,B,z2,S,_,T⟩:=CD underlying22 underlying41 kr g3
 cases P;cases S
 exact⟨j,m,o,p,_,_,q,B,r,z2,N,O,hq,ht,⟨Q,R⟩,T,J3 K⟩
def JK(E:laidMetH ah Rows.neighbourGramRow.laid W){a c d f:Nat}{j n s t:Value}{o w m l:Nat}{q z2 v:Nat->Int}{len:Nat->Nat}{A:aJ}{p:Int}{mk:Bool}(F:a<256)(y:c<256)(G:d<256)(H:f<65536)(I:∀i,i<o->(Lit.int .i8 (q i)).wf=true)(z:M4 .i8 W j o q)(B:M4 .i8 W n w z2)(C:SlM W s m len A)(J:M4 .i64 W t l v) :
  Calls ah 7 #[.agg #[.int .u8 a,.int .u8 c,j,n,.int .u8 d,.int .u16 f],s,.int .i64 p,t,.bool mk] W fun e W'=>e=.returned (.bool true)/\Below W.heap.size W W':=by
 have hargs:aW W St.none.dom [ww a c o q w (fun i=>.int .i8 (z2 i)) d f,jH m len A,.int .i64 p,aV l v,.bool mk] [.agg #[.int .u8 a,.int .u8 c,j,n,.int .u8 d,.int .u16 f],s,.int .i64 p,t,.bool mk]:=by
  simp only[aW];refine⟨?_,C.rep,by simp[bn],J.rep,by simp[bn],trivial⟩
  unfold ww;simp only[bn];refine⟨[.int .u8 a,.int .u8 c,j,n,.int .u8 d,.int .u16 f],?_,?_⟩
  .simp only[dj,FN,z.cells,B.cells];rfl
  .simp only[aW];exact⟨by simp[bn],by simp[bn],z.rep,B.rep,by simp[bn],by simp[bn],trivial⟩
 refine(JL (fun S _=>(GX S).mono fun r S' h=>⟨h.1,by rw[h.2];exact eQ.refl S⟩) St.none trivial a c o q w (fun i=>.int .i8 (z2 i)) d f F y G H (fun i K=>bounds_i8 (I i K)) m len A p l v mk C.1 W _ ⟨rfl,GE E,fun b x L=>by cases L⟩ hargs).mono ?_
 rintro e w' ⟨u,r,S',rfl,⟨rfl,N⟩,D,M,g⟩;simp only[bn]at D;subst D;exact⟨rfl,g.os,g.tape,g.output,g.size,fun k y=>g.keep k y fun h=>h rfl⟩
def own:ownKnob ah.godebug=ab:=by kernel_rfl
def tb:laidOutB ah=true:=by kernel_rfl
def Rm(os:Os)(started:os.Started)(H:Type)(enc:TypeId×Value->H) :
  ReturnsInHanded {} Tryz.checked os 7 .any (fun w args=>(Rows.neighbourGramSpec.pre enc ah Tryz.f7 Rows.neighbourGramRow.domain false w args/\laidMetH ah Rows.neighbourGramRow.laid w)/\sizedMet enc ah Tryz.f7 (OpenSpec.ofChange Rows.neighbourGramSpec) false w args)
   (Rows.neighbourGramSpec.post enc ah Tryz.f7 false true false false):=by
 refine returnsInHanded_of_change_and (C:=Tryz.checked) (X:=fun w _=>laidMetH ah Rows.neighbourGramRow.laid w) (fun _ _ _ L h=>h.of_heap L) own started kr func7
  (ChangeSpec.witness_shaped (enc:=enc) (C:=Tryz.checked) (os:=os) (X:=fun w _=>laidMetH ah Rows.neighbourGramRow.laid w) false (World.laidAll ah os Rows.neighbourGramRow.laid) #[.agg #[.int .u8 0,.int .u8 0,.slice ab 0 0,.slice ab 0 0,.int .u8 0,.int .u16 0],.slice ab 0 0,.int .i64 0,.slice ab 0 0,.bool false] 8 (World.laidAll_os _ _ _)
   (World.shaped_of_ZipB kr kr) kr kr kr
   (by rw[MakeChecks.laidMetH_plain _ _ _ kr];exact laidMet_laidAll _ kr kr)) ?_
 intro W base args ds gs before c D _ _ M _;have g:=D;obtain⟨p,q,i,N,rfl,_,_⟩:=D;have E:DataW.TrodAll enc ah W 0 (fun _=>true) true Tryz.f7.params.toList args.toList ds p:=i;have a:∀(j:Nat) t v,Tryz.f7.params[j]? = some t->args[j]? = some v->Value.okWide ah W .any base t v:=c;rw[params7]at E a;obtain⟨v,vs,d,ds',F,q1,hargs,rfl,rfl,k,n⟩:=trodAll_cons E;obtain⟨v',v'',G,I,d',d'',d3,d4,O,P,Q,R,e,rfl,rfl,o,J,r,K⟩:=trodAll_four (args:=vs.toArray) n;obtain rfl:args=#[v,v',v'',G,I]:=by cases args;simp_all
 obtain⟨rfl,rfl⟩:=trodVars_none N;obtain⟨d0,k0,q0,t0,s1,s2,n1,n2,z1,z2,S,T,U,V,⟨Y,s⟩,u,rfl⟩:=JC k;obtain⟨Z,len2,cap2,rfl⟩:=okWide_slice underlying28 (a 1 28 v' rfl rfl);obtain⟨z,rfl⟩:=okWide_int mT (a 2 2 v'' rfl rfl);obtain⟨a3,len3,cap3,rfl⟩:=okWide_slice underlying29 (a 3 29 G rfl rfl);obtain⟨mk,rfl⟩:=okWide_bool BV (a 4 4 I rfl rfl);obtain⟨f2,h2f⟩:=id o;obtain⟨s3,m,len,A,e3,y⟩:=LU h2f;obtain rfl:ao Z len2 cap2=s3:=(oq.inj e3).1;obtain⟨f4,h4f⟩:=id r;obtain⟨s4,l,x,e4,_,B⟩:=CD underlying29 mT kr h4f
 obtain rfl:ao a3 len3 cap3=s4:=(oq.inj e4).1;have b:∀{t:TypeId} {v:Value} {d:DataW H} {p:List MemPlace},DataW.Trod enc ah W 0 (fun _=>true) true t v d p->∀x∈p,x.block<W.heap.size:=fun⟨_,h⟩ x hx=>DataW.trod_lt _ _ _ _ h x hx;refine(JK M (p:=z) (mk:=mk) S T U V Y s u y B).mono fun e W' ⟨he,f⟩=>?_;subst he;rw[DK,DK]at g;refine⟨_,rfl,_,_,_,[],F++(O++(P++(Q++R))),[],g,?_,?_,rfl,f.frame _,fun h=>by cases h⟩
 .exact trodAll_mk1 (shut_bool BV _)
 .exact⟨F,_,NE tb kr (jt kr) k f (b k),trodAll_mk4 (NE tb kr (jt kr) o f (b o)) (NE tb kr (jt kr) J f (b J)) (NE tb kr (jt kr) r f (b r)) (NE tb kr (jt kr) K f (b K)),rfl⟩

end Go.Proofs.YtdobfmlmenaajaaGreatDoor
