/-
  Lemmas for NeighbourBack.
-/
import Derived.Test.YtdobfmlmenaajaaGreatDoorB18
import Derived.Test.YtdobfmlmenaajaaGreatDoorCards
import Derived.Test.YtdobfmlmenaajaaGreatDoorTie
import Derived.ProofKit
import Derived.OpenShut
import Derived.LaidMore
import Derived.Lay
import Derived.SevenTiedAt
import Derived.Carry
import Derived.Stop.Joined
namespace Go.Proofs.YtdobfmlmenaajaaGreatDoor
open _root_.Go.Proofs.Tryz
open _root_.List renaming take→vD
open _root_.Option renaming none→ae
open _root_.Go.Proofs.Tryz renaming prog→ak
open Value renaming slice→ao
set_option maxHeartbeats 6400000
set_option maxRecDepth 4096
set_option linter.all false
variable{hd:Bool}{k:IntKind}{ps:List MemPlace}{l:List Value}{fuel m n:Nat}{z:Nat->Int}{len:Nat->Nat}{H:Type}{v:Value}{W:World}{A:az}
open Go.ChangeShapes Go.WideShapes Go.ChangeAt Go.RowKit
def G7(h:laidMetH ak Rows.neighbourBackRow.laid W):vK W:=by
 rw[MakeChecks.laidMetH_plain _ _ _ kr]at h
 obtain⟨ps,⟨g,t,cs,fuel,p,q,hg,ht,hv,hd,_,hps⟩,_,hfr⟩:=h
 obtain rfl := p9 ((show ak.globalNamed "quadform/prime.offsets" = some 0 by kernel_rfl).symm.trans hg)
 obtain rfl:=p9 ((show(ak.globals[0]?).map (·.type)=some 239 by kernel_rfl).symm.trans ht)
 obtain⟨xs,m,_,ex,hlen,hl,hel⟩:=DataW.trod_array underlying239 hd;have c2:ak.cellsOf 2=1:=by kernel_rfl
 have c239:ak.cellsOf 239=8:=by kernel_rfl
 have hsz:cs.size=8:=by rw[c239]at hlen;simpa using hlen
 have e3:(xs.map (·.1))=wD.map fun n=>.lit (.int .i64 n):=(DataW.agg.inj (Prod.mk.inj ex).1).symm
 obtain⟨⟨c,ty,hc⟩,_⟩:=hfr 0 0 (by rw[hps];simp only[Jz,MemPlace.row];exact a6 (a6 (ib.2 ⟨0,yX.2 om,rfl⟩)))
 have hcs:c=cs:=by
  unfold World.var? at hv;rw[hg]at hv;simp only[dS,hc]at hv;exact p9 hv
 subst hcs;refine⟨c,ty,hc,fun r hr=>?_⟩;have hE:=hel r om;rw[c2,sD,bE om]at hE;obtain⟨z,e1,e2,_⟩:=PY nH hE;have e4:(xs.map (·.1))[r]? = (wD.map fun n=>(DataW.lit (.int .i64 n):DataW Unit))[r]?:=by rw[e3]
 rw[li,li,bE (by omega:r<xs.length),bE (show r<wD.length from hr),e2]at e4
 have hz:z=wD.getD r 0:=by
  simp only[dw,fY,DataW.lit.injEq,Lit.int.injEq,ke]at e4;rw[e4,List.getD,bE (show r<wD.length from hr)];rfl
 rw[<-hz];have h0:((c.toList.drop r).take 1)[0]? = some (.int .i64 z):=by rw[e1]<;>rfl
 simpa using h0
def RZ(W:World)(v:Value)(n:Nat)(P:Nat->Value->Prop):Prop:=v=.slice ae 0 0/\n=0∨∃a cap,v=.slice (some a) n cap/\n<=cap/\∀i,i<n->∃u,W.cell? (a.add i)=some u/\P i u
def Nd(k:IntKind)(W:World)(v:Value)(n:Nat)(z:Nat->Int):Prop:=RZ W v n (fun i u=>u=.int k (z i))
def RZ.rep{P:Nat->Value->Prop}(t:RZ W v n P)(g:Nat->AV)(h:∀i u,i<n->P i u->one u/\bI W St.none.dom (g i) u):bI W St.none.dom (.lst 1 n g) v:=by
 simp only[bI];rcases t with⟨rfl,rfl⟩|⟨a,cap,rfl,w,q⟩
 .exact⟨_,_,rfl,ag _,fun c=>absurd c om⟩
 .refine⟨_,_,rfl,w,fun x=>?_⟩;obtain⟨b,off,sp⟩:=a;obtain⟨z,c,_⟩:=q 0 x;have f:sp=ae:=by
   cases sp with
   | none=>rfl
   | some s =>
    simp only[Addr.add,aj,World.cell?]at c;split at c
    .simp at c
    .cases c
  subst f;obtain⟨k,l,m,d,_⟩:=AA c;simp only[Addr.add,aj]at d;refine⟨b,off,rfl,fN d,fun y=>y rfl,fun j o=>?_⟩;obtain⟨u,p,r⟩:=q j o;have e:(Addr.add ⟨b,off,ae⟩ j)=⟨b,off+j,ae⟩:=iU b off j;rw[e]at p;simp only[World.cell?,d]at p;exact⟨u,⟨k,l,m,d,by rw[mP];exact⟨by simpa using p,(h j u o r).1⟩⟩,(h j u o r).2⟩
def Nd.rep(a:Nd k W v n z):bI W St.none.dom (.lst 1 n (fun i=>.int k (z i))) v :=
 RZ.rep a _ fun i u _ e=>by subst e;exact⟨trivial,by simp[bI]⟩
def RZ.cells{P:Nat->Value->Prop}(b:RZ W v n P):v.cells=#[v]/\one v:=by
 rcases b with⟨rfl,_⟩|⟨a,cap,rfl,_⟩<;>exact⟨rfl,trivial⟩
def Di{enc:TypeId×Value->H}{t e:Nat}{cs:List Value}{x:DataW H×List MemPlace}(d:ak.underlying t=some (.slice e))(f:ak.underlying e=some (.int k))(g:ak.cellsOf e=1)
  (h:DataW.trod enc ak W 0 (fun _=>true) hd fuel t cs=some x):∃v n z,cs=[v]/\(∀i,i<n->(Lit.int k (z i)).wf=true)/\Nd k W v n z:=by
 rcases open_ints d f g h with⟨b,_⟩|⟨a,len,cap,zs,b,_,j,_,l,_,m,o⟩
 .exact⟨_,0,fun _=>0,b,fun i c=>absurd c om,a6 ⟨rfl,rfl⟩⟩
 .rw[aj rfl]at l;refine⟨_,len,fun i=>zs.getD i 0,b,fun i c=>o _ ?_,aQ ⟨a,cap,rfl,j,fun i c=>⟨_,m i om,rfl⟩⟩⟩;show zs.getD i 0∈zs;rw[List.getD_eq_getElem?_getD,bE om];exact Gj _
def SlM(W:World)(v:Value)(m:Nat)(len:Nat->Nat)(A:az):Prop:=(∀i j,i<m->j<len i->xa (A i j))/\RZ W v m (fun i u=>Nd .i64 W u (len i) (A i))
def SlM.rep(h:SlM W v m len A):bI W St.none.dom (lW m len A) v :=
 h.2.rep _ fun i u _ a=>⟨a.cells.2,Nd.rep a⟩
def LU{enc:TypeId×Value->H}{cs:List Value}{x:DataW H×List MemPlace}(h:DataW.trod enc ak W 0 (fun _=>true) hd fuel 28 cs=some x):∃v m len A,cs=[v]/\SlM W v m len A:=by
 rcases DataW.trod_slice underlying28 h with⟨c,_⟩|⟨a,n,cap,el,rs,f,_,c,_,_,k,_,y,o,_⟩
 .exact⟨_,0,fun _=>0,fun _ _=>0,c,fun i j b=>absurd b om,a6 ⟨rfl,rfl⟩⟩
 .have d:ak.cellsOf 29=1:=by kernel_rfl
  have row:∀i,∃p:Value×Nat×(Nat->Int),i<n->W.cell? (a.add i)=some p.1/\(∀j,j<p.2.1->(Lit.int .i64 (p.2.2 j)).wf=true)/\Nd .i64 W p.1 p.2.1 p.2.2:=fun i=>by
   by_cases b:i<n
   .have g:=o i b;rw[bE om,d,sD,Option.bind_eq_some_iff]at g;obtain⟨cs',q,r⟩:=g;obtain⟨u,l,z,rfl,s,t⟩:=Di underlying29 nH kr r
    exact⟨(u,l,z),fun _=>⟨cell_of_cells?_one q,s,t⟩⟩
   .exact⟨(.slice ae 0 0,0,fun _=>0),fun h=>absurd h b⟩
  obtain⟨p,e⟩:=Classical.axiomOfChoice row;refine⟨_,n,fun i=>(p i).2.1,fun i=>(p i).2.2,c,fun i j b w=>bounds_i64 ((e i b).2.1 j w),aQ ⟨a,cap,rfl,k,fun i b=>⟨_,(e i b).1,(e i b).2.2⟩⟩⟩
def Kt{c0 c1:Value}(h:v.cells.toList=c0::c1::l):v=.agg (c0::c1::l).toArray:=by
 cases v with
 | agg xs =>
  simp only[Value.cells]at h;rw[<-h]
 | _=>simp[Value.cells]at h
def len6{cs:List Value}(h:cs.length=6):∃a b c d e f,cs=[a,b,c,d,e,f]:=by
 match cs,h with
 | [a,b,c,d,e,f],_=>exact⟨a,b,c,d,e,f,rfl⟩
def JW{enc:TypeId×Value->H}{d:DataW H}(h:DataW.Trod enc ak W 0 (fun _=>true) hd 27 v d ps) :
  ∃(j m o p:Nat) (s1 z:Value) (q A:Nat) (r z2:Nat->Int),j<256/\m<256/\o<256/\p<65536/\((∀i,i<q->(Lit.int .i8 (r i)).wf=true)/\Nd .i8 W s1 q r)/\Nd .i8 W z A z2/\v=.agg #[.int .u8 j,.int .u8 m,s1,z,.int .u8 o,.int .u16 p]:=by
 obtain⟨fuel,h⟩:=h;have B:ak.cellsOf 27=6:=by kernel_rfl
 have C:ak.cellsOf 24=4:=by kernel_rfl
 have D:ak.cellsOf 5=1:=by kernel_rfl
 have E:ak.cellsOf 25=1:=by kernel_rfl
 have f:ak.cellsOf 22=1:=by kernel_rfl
 have u8:∀{fuel:Nat} {c:Value} {x:DataW H×List MemPlace},DataW.trod enc ak W 0 (fun _=>true) hd fuel 5 [c]=some x->∃n:Nat,n<256/\c=.int .u8 n:=fun {fuel c x} h=>by
  obtain⟨n,e,_,b⟩:=PY underlying5 h
  cases e
  simp only[Lit.wf,cV,jK]at b;have F:IntKind.u8.min=0:=rfl;have G:IntKind.u8.max=255:=rfl;rw[F,G]at b;exact⟨n.toNat,om,by rw[c9 b.1]⟩
 have u16:∀{fuel:Nat} {c:Value} {x:DataW H×List MemPlace},DataW.trod enc ak W 0 (fun _=>true) hd fuel 25 [c]=some x->∃n:Nat,n<65536/\c=.int .u16 n:=fun {fuel c x} h=>by
  obtain⟨n,e,_,b⟩:=PY underlying25 h
  cases e
  simp only[Lit.wf,cV,jK]at b;have F:IntKind.u16.min=0:=rfl;have G:IntKind.u16.max=65535:=rfl;rw[F,G]at b;exact⟨n.toNat,om,by rw[c9 b.1]⟩
 have some_of:∀{α:Type} {l:List α} {i k:Nat},l.length=k->i<k->∃y,l[i]? = some y:=fun {α l i k} h1 h2=>⟨l[i]'om,bE om⟩;obtain⟨xs,n,_,_,a,I,s⟩:=TH underlying27 h;rw[B]at a;generalize J:v.cells.toList=cs at a s;obtain⟨T,K,t,g,U,L,rfl⟩:=len6 a;have f0:DataW.trod enc ak W 0 (fun _=>true) hd n 24 (vD (ak.cellsOf 24) [T,K,t,g,U,L])=xs[0]?:=s 0 _ rfl;have f1:DataW.trod enc ak W 0 (fun _=>true) hd n 5 (vD (ak.cellsOf 5) [U,L])=xs[1]?:=s 1 _ rfl;have V:DataW.trod enc ak W 0 (fun _=>true) hd n 25 (vD (ak.cellsOf 25) [L])=xs[2]?:=s 2 _ rfl;obtain⟨y0,e0⟩:=some_of I (om:0<3)
 obtain⟨y1,e1⟩:=some_of I (om:1<3)
 obtain⟨y2,e2⟩:=some_of I (om:2<3)
 rw[C,e0]at f0;rw[D,e1]at f1;rw[E,e2]at V;obtain⟨o,hq,rfl⟩:=u8 f1;obtain⟨p,ht,rfl⟩:=u16 V;obtain⟨ys,n',_,_,_,u,w⟩:=TH underlying24 f0;have X:DataW.trod enc ak W 0 (fun _=>true) hd n' 5 (vD (ak.cellsOf 5) [T,K,t,g])=ys[0]?:=w 0 _ rfl;have Y:DataW.trod enc ak W 0 (fun _=>true) hd n' 5 (vD (ak.cellsOf 5) [K,t,g])=ys[1]?:=w 1 _ rfl;have Z:DataW.trod enc ak W 0 (fun _=>true) hd n' 22 (vD (ak.cellsOf 22) [t,g])=ys[2]?:=w 2 _ rfl;have g3:DataW.trod enc ak W 0 (fun _=>true) hd n' 22 (vD (ak.cellsOf 22) [g])=ys[3]?:=w 3 _ rfl;obtain⟨w0,i0⟩:=some_of u (om:0<4)
 obtain⟨w1,i1⟩:=some_of u (om:1<4)
 obtain⟨w2,i2⟩:=some_of u (om:2<4)
 obtain⟨w3,i3⟩:=some_of u (om:3<4)
 rw[D,i0]at X;rw[D,i1]at Y;rw[f,i2]at Z;rw[f,i3]at g3;obtain⟨j,M,rfl⟩:=u8 X;obtain⟨m,N,rfl⟩:=u8 Y;obtain⟨s1,q,r,O,P,Q⟩:=Di underlying22 underlying41 kr Z
 obtain⟨z,A,z2,R,_,S⟩:=Di underlying22 underlying41 kr g3
 cases O;cases R
 exact⟨j,m,o,p,_,_,q,A,r,z2,M,N,hq,ht,⟨P,Q⟩,S,Kt J⟩
def J5(D:laidMetH ak Rows.neighbourBackRow.laid W){a c d f:Nat}{s1 j q s:Value}{n t m l:Nat}{o z2 v:Nat->Int}{len:Nat->Nat}{A:az}{p:Int}{mk:Bool}(E:a<256)(w:c<256)(F:d<256)(G:f<65536)(H:∀i,i<n->(Lit.int .i8 (o i)).wf=true)(y:Nd .i8 W s1 n o)(z:Nd .i8 W j t z2)(B:SlM W q m len A)(I:Nd .i64 W s l v) :
  Calls ak 10 #[.agg #[.int .u8 a,.int .u8 c,s1,j,.int .u8 d,.int .u16 f],q,.int .i64 p,s,.bool mk] W fun e W'=>e=.returned (.bool true)/\Below W.heap.size W W':=by
 have hargs:bB W St.none.dom [AB a c n o t (fun i=>.int .i8 (z2 i)) d f,lW m len A,.int .i64 p,aK l v,.bool mk] [.agg #[.int .u8 a,.int .u8 c,s1,j,.int .u8 d,.int .u16 f],q,.int .i64 p,s,.bool mk]:=by
  simp only[bB];refine⟨?_,B.rep,by simp[bI],I.rep,by simp[bI],trivial⟩
  unfold AB;simp only[bI];refine⟨[.int .u8 a,.int .u8 c,s1,j,.int .u8 d,.int .u16 f],?_,?_⟩
  .simp only[ei,Tl,y.cells,z.cells];rfl
  .simp only[bB];exact⟨by simp[bI],by simp[bI],y.rep,z.rep,by simp[bI],by simp[bI],trivial⟩
 refine(G0 (fun S _=>(Ht S).mono fun r S' h=>⟨h.1,by rw[h.2];exact dh.refl S⟩) St.none trivial a c n o t (fun i=>.int .i8 (z2 i)) d f E w F G (fun i J=>bounds_i8 (H i J)) m len A p l v mk B.1 W _ ⟨rfl,G7 D,fun b x K=>by cases K⟩ hargs).mono ?_
 rintro e w' ⟨u,r,S',rfl,⟨rfl,M⟩,C,L,g⟩;simp only[bI]at C;subst C;exact⟨rfl,g.os,g.tape,g.output,g.size,fun k w=>g.keep k w fun h=>h rfl⟩
def own:ownKnob ak.godebug=ae:=by kernel_rfl
def ut:laidOutB ak=true:=by kernel_rfl
def Rg(os:Os)(started:os.Started)(H:Type)(enc:TypeId×Value->H) :
  ReturnsInHanded {} Tryz.checked os 10 .any (fun w args=>(Rows.neighbourBackSpec.pre enc ak Tryz.f10 Rows.neighbourBackRow.domain false w args/\laidMetH ak Rows.neighbourBackRow.laid w)/\sizedMet enc ak Tryz.f10 (OpenSpec.ofChange Rows.neighbourBackSpec) false w args)
   (Rows.neighbourBackSpec.post enc ak Tryz.f10 false true false false):=by
 refine returnsInHanded_of_change_and (C:=Tryz.checked) (X:=fun w _=>laidMetH ak Rows.neighbourBackRow.laid w) (fun _ _ _ L h=>h.of_heap L) own started kr func10
  (ChangeSpec.witness_shaped (enc:=enc) (C:=Tryz.checked) (os:=os) (X:=fun w _=>laidMetH ak Rows.neighbourBackRow.laid w) false (World.laidAll ak os Rows.neighbourBackRow.laid) #[.agg #[.int .u8 0,.int .u8 0,.slice ae 0 0,.slice ae 0 0,.int .u8 0,.int .u16 0],.slice ae 0 0,.int .i64 0,.slice ae 0 0,.bool false] 8 (World.laidAll_os _ _ _)
   (World.shaped_of_ZipB kr kr) kr kr kr
   (by rw[MakeChecks.laidMetH_plain _ _ _ kr];exact laidMet_laidAll _ kr kr)) ?_
 intro W base args ds gs before c D _ _ M _;have g:=D;obtain⟨p,q,i,N,rfl,_,_⟩:=D;have E:DataW.TrodAll enc ak W 0 (fun _=>true) true Tryz.f10.params.toList args.toList ds p:=i;have a:∀(j:Nat) t v,Tryz.f10.params[j]? = some t->args[j]? = some v->Value.okWide ak W .any base t v:=c;rw[params10]at E a;obtain⟨v,vs,d,ds',F,q1,hargs,rfl,rfl,k,n⟩:=trodAll_cons E;obtain⟨v',v'',G,I,d',d'',d3,d4,O,P,Q,R,e,rfl,rfl,o,J,r,K⟩:=trodAll_four (args:=vs.toArray) n;obtain rfl:args=#[v,v',v'',G,I]:=by cases args;simp_all
 obtain⟨rfl,rfl⟩:=trodVars_none N;obtain⟨d0,k0,q0,t0,s1,s2,n1,n2,z1,z2,S,T,U,V,⟨Y,s⟩,u,rfl⟩:=JW k;obtain⟨Z,len2,cap2,rfl⟩:=okWide_slice underlying28 (a 1 28 v' rfl rfl);obtain⟨z,rfl⟩:=okWide_int nH (a 2 2 v'' rfl rfl);obtain⟨a3,len3,cap3,rfl⟩:=okWide_slice underlying29 (a 3 29 G rfl rfl);obtain⟨mk,rfl⟩:=okWide_bool Cy (a 4 4 I rfl rfl);obtain⟨f2,h2f⟩:=id o;obtain⟨s3,m,len,A,e3,y⟩:=LU h2f;obtain rfl:ao Z len2 cap2=s3:=(List.cons.inj e3).1;obtain⟨f4,h4f⟩:=id r;obtain⟨s4,l,x,e4,_,B⟩:=Di underlying29 nH kr h4f
 obtain rfl:ao a3 len3 cap3=s4:=(List.cons.inj e4).1;have b:∀{t:TypeId} {v:Value} {d:DataW H} {p:List MemPlace},DataW.Trod enc ak W 0 (fun _=>true) true t v d p->∀x∈p,x.block<W.heap.size:=fun⟨_,h⟩ x hx=>DataW.trod_lt _ _ _ _ h x hx;refine(J5 M (p:=z) (mk:=mk) S T U V Y s u y B).mono fun e W' ⟨he,f⟩=>?_;subst he;rw[Eu,Eu]at g;refine⟨_,rfl,_,_,_,[],F++(O++(P++(Q++R))),[],g,?_,?_,rfl,f.frame _,fun h=>by cases h⟩
 .exact trodAll_mk1 (shut_bool Cy _)
 .exact⟨F,_,NK ut kr (jJ kr) k f (b k),trodAll_mk4 (NK ut kr (jJ kr) o f (b o)) (NK ut kr (jJ kr) J f (b J)) (NK ut kr (jJ kr) r f (b r)) (NK ut kr (jJ kr) K f (b K)),rfl⟩

end Go.Proofs.YtdobfmlmenaajaaGreatDoor
