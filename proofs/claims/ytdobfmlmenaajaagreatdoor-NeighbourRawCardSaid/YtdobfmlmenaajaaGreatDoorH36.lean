/-
  Lemmas for NeighbourRaw.
-/
import Derived.Test.YtdobfmlmenaajaaGreatDoorH33
import Derived.Test.YtdobfmlmenaajaaGreatDoorH35
import Derived.Test.YtdobfmlmenaajaaGreatDoorCards
import Derived.Test.YtdobfmlmenaajaaGreatDoorTie
import Derived.ProofKit
import Derived.OpenShut
import Derived.LaidMore
import Derived.Lay
import Derived.SevenTiedAt
import Derived.Carry
import Derived.Stop.Joined
namespace Go.Proofs.YtdobfmlmenaajaaGreatDoor
open _root_.Go.Proofs.Tryz
open _root_.List renaming cons→oX,take→uV
open _root_.Option renaming none→ab
open _root_.Go.Proofs.Tryz renaming prog→ah
open Value renaming slice→ao
set_option maxHeartbeats 6400000
set_option maxRecDepth 4096
set_option linter.all false
variable{hd:Bool}{k:IntKind}{ps:List MemPlace}{l:List Value}{b0 fuel m n:Nat}{z:Nat->Int}{len:Nat->Nat}{H:Type}{v:Value}{W:World}{A:aI}
open Go.ChangeShapes Go.WideShapes Go.ChangeAt Go.RowKit
def Ih(h:laidMetH ah Rows.neighbourRawRow.laid W):uZ W:=by
 rw[MakeChecks.laidMetH_plain _ _ _ kr]at h
 obtain⟨ps,⟨g,t,cs,fuel,p,q,hg,ht,hv,hd,_,hps⟩,_,hfr⟩:=h
 obtain rfl := kN ((show ah.globalNamed "quadform/prime.offsets" = some 0 by kernel_rfl).symm.trans hg)
 obtain rfl:=kN ((show(ah.globals[0]?).map (·.type)=some 239 by kernel_rfl).symm.trans ht)
 obtain⟨xs,m,_,ex,hlen,hl,hel⟩:=DataW.trod_array underlying239 hd;have c2:ah.cellsOf 2=1:=by kernel_rfl
 have c239:ah.cellsOf 239=8:=by kernel_rfl
 have hsz:cs.size=8:=by rw[c239]at hlen;simpa using hlen
 have e3:(xs.map (·.1))=wa.map fun n=>.lit (.int .i64 n):=(DataW.agg.inj (Prod.mk.inj ex).1).symm
 obtain⟨⟨c,ty,hc⟩,_⟩:=hfr 0 0 (by rw[hps];simp only[Ka,MemPlace.row];exact bF (bF (ie.2 ⟨0,jq.2 om,rfl⟩)))
 have hcs:c=cs:=by
  unfold World.var? at hv;rw[hg]at hv;simp only[dE,hc]at hv;exact kN hv
 subst hcs;refine⟨c,ty,hc,fun r hr=>?_⟩;have hE:=hel r om;rw[c2,r9,a8 om]at hE;obtain⟨z,e1,e2,_⟩:=Rh nI hE;have e4:(xs.map (·.1))[r]? = (wa.map fun n=>(DataW.lit (.int .i64 n):DataW Unit))[r]?:=by rw[e3]
 rw[lk,lk,a8 (by omega:r<xs.length),a8 (show r<wa.length from hr),e2]at e4
 have hz:z=wa.getD r 0:=by
  simp only[du,eU,DataW.lit.injEq,Lit.int.injEq,kc]at e4;rw[e4,List.getD,a8 (show r<wa.length from hr)];rfl
 rw[<-hz];have h0:((c.toList.drop r).take 1)[0]? = some (.int .i64 z):=by rw[e1]<;>rfl
 simpa using h0
def TN(W:World)(v:Value)(n:Nat)(P:Nat->Value->Prop):Prop:=v=.slice ab 0 0/\n=0∨∃a cap,v=.slice (some a) n cap/\n<=cap/\∀i,i<n->∃u,W.cell? (a.add i)=some u/\P i u
def Oh(k:IntKind)(W:World)(v:Value)(n:Nat)(z:Nat->Int):Prop:=TN W v n (fun i u=>u=.int k (z i))
def TN.rep{P:Nat->Value->Prop}(t:TN W v n P)(g:Nat->AV)(h:∀i u,i<n->P i u->one u/\bs W St.none.dom (g i) u):bs W St.none.dom (.lst 1 n g) v:=by
 simp only[bs];rcases t with⟨rfl,rfl⟩|⟨a,cap,rfl,w,q⟩
 .exact⟨_,_,rfl,ae _,fun c=>absurd c om⟩
 .refine⟨_,_,rfl,w,fun x=>?_⟩;obtain⟨b,off,sp⟩:=a;obtain⟨z,c,_⟩:=q 0 x;have f:sp=ab:=by
   cases sp with
   | none=>rfl
   | some s =>
    simp only[Addr.add,ai,World.cell?]at c;split at c
    .simp at c
    .cases c
  subst f;obtain⟨k,l,m,d,_⟩:=Ay c;simp only[Addr.add,ai]at d;refine⟨b,off,rfl,gA d,fun y=>y rfl,fun j o=>?_⟩;obtain⟨u,p,r⟩:=q j o;have e:(Addr.add ⟨b,off,ab⟩ j)=⟨b,off+j,ab⟩:=iP b off j;rw[e]at p;simp only[World.cell?,d]at p;exact⟨u,⟨k,l,m,d,by rw[mW];exact⟨by simpa using p,(h j u o r).1⟩⟩,(h j u o r).2⟩
def Oh.rep(a:Oh k W v n z):bs W St.none.dom (.lst 1 n (fun i=>.int k (z i))) v :=
 TN.rep a _ fun i u _ e=>by subst e;exact⟨trivial,by simp[bs]⟩
def TN.cells{P:Nat->Value->Prop}(b:TN W v n P):v.cells=#[v]/\one v:=by
 rcases b with⟨rfl,_⟩|⟨a,cap,rfl,_⟩<;>exact⟨rfl,trivial⟩
def Ds{enc:TypeId×Value->H}{t e:Nat}{cs:List Value}{x:DataW H×List MemPlace}(d:ah.underlying t=some (.slice e))(f:ah.underlying e=some (.int k))(g:ah.cellsOf e=1)
  (h:DataW.trod enc ah W 0 (fun _=>true) hd fuel t cs=some x):∃v n z,cs=[v]/\(∀i,i<n->(Lit.int k (z i)).wf=true)/\Oh k W v n z:=by
 rcases open_ints d f g h with⟨b,_⟩|⟨a,len,cap,zs,b,_,j,_,l,_,m,o⟩
 .exact⟨_,0,fun _=>0,b,fun i c=>absurd c om,bF ⟨rfl,rfl⟩⟩
 .rw[ai rfl]at l;refine⟨_,len,fun i=>zs.getD i 0,b,fun i c=>o _ ?_,bH ⟨a,cap,rfl,j,fun i c=>⟨_,m i om,rfl⟩⟩⟩;show zs.getD i 0∈zs;rw[ig,a8 om];exact GN _
def TM(W:World)(v:Value)(m:Nat)(len:Nat->Nat)(A:aI):Prop:=(∀i j,i<m->j<len i->qN (A i j))/\TN W v m (fun i u=>Oh .i64 W u (len i) (A i))
def TM.rep(h:TM W v m len A):bs W St.none.dom (jb m len A) v :=
 h.2.rep _ fun i u _ a=>⟨a.cells.2,Oh.rep a⟩
def M6{enc:TypeId×Value->H}{cs:List Value}{x:DataW H×List MemPlace}(h:DataW.trod enc ah W 0 (fun _=>true) hd fuel 28 cs=some x):∃v m len A,cs=[v]/\TM W v m len A:=by
 rcases DataW.trod_slice underlying28 h with⟨c,_⟩|⟨a,n,cap,el,rs,f,_,c,_,_,k,_,y,o,_⟩
 .exact⟨_,0,fun _=>0,fun _ _=>0,c,fun i j b=>absurd b om,bF ⟨rfl,rfl⟩⟩
 .have d:ah.cellsOf 29=1:=by kernel_rfl
  have row:∀i,∃p:Value×Nat×(Nat->Int),i<n->W.cell? (a.add i)=some p.1/\(∀j,j<p.2.1->(Lit.int .i64 (p.2.2 j)).wf=true)/\Oh .i64 W p.1 p.2.1 p.2.2:=fun i=>by
   by_cases b:i<n
   .have g:=o i b;rw[a8 om,d,r9,Option.bind_eq_some_iff]at g;obtain⟨cs',q,r⟩:=g;obtain⟨u,l,z,rfl,s,t⟩:=Ds underlying29 nI kr r
    exact⟨(u,l,z),fun _=>⟨cell_of_cells?_one q,s,t⟩⟩
   .exact⟨(.slice ab 0 0,0,fun _=>0),fun h=>absurd h b⟩
  obtain⟨p,e⟩:=Classical.axiomOfChoice row;refine⟨_,n,fun i=>(p i).2.1,fun i=>(p i).2.2,c,fun i j b w=>bounds_i64 ((e i b).2.1 j w),bH ⟨a,cap,rfl,k,fun i b=>⟨_,(e i b).1,(e i b).2.2⟩⟩⟩
def vZ{enc:TypeId×Value->H}{d:DataW H}(b:Value.okWide ah W .any b0 28 v)(h:DataW.Trod enc ah W 0 (fun _=>true) hd 28 v d ps):∃m len A,TM W v m len A:=by
 obtain⟨a,l,c,rfl⟩:=okWide_slice underlying28 b;obtain⟨f,h⟩:=h;obtain⟨s,m,len,A,e,g⟩:=M6 h;obtain rfl:ao a l c=s:=(oX.inj e).1;exact⟨m,len,A,g⟩
def Ln{c0 c1:Value}(h:v.cells.toList=c0::c1::l):v=.agg (c0::c1::l).toArray:=by
 cases v with
 | agg xs =>
  simp only[Value.cells]at h;rw[<-h]
 | _=>simp[Value.cells]at h
def len6{cs:List Value}(h:cs.length=6):∃a b c d e f,cs=[a,b,c,d,e,f]:=by
 match cs,h with
 | [a,b,c,d,e,f],_=>exact⟨a,b,c,d,e,f,rfl⟩
def KQ{enc:TypeId×Value->H}{d:DataW H}(h:DataW.Trod enc ah W 0 (fun _=>true) hd 27 v d ps) :
  ∃(j m o p:Nat) (z A:Value) (q B:Nat) (r z2:Nat->Int),j<256/\m<256/\o<256/\p<65536/\((∀i,i<q->(Lit.int .i8 (r i)).wf=true)/\Oh .i8 W z q r)/\Oh .i8 W A B z2/\v=.agg #[.int .u8 j,.int .u8 m,z,A,.int .u8 o,.int .u16 p]:=by
 obtain⟨fuel,h⟩:=h;have C:ah.cellsOf 27=6:=by kernel_rfl
 have D:ah.cellsOf 24=4:=by kernel_rfl
 have E:ah.cellsOf 5=1:=by kernel_rfl
 have F:ah.cellsOf 25=1:=by kernel_rfl
 have f:ah.cellsOf 22=1:=by kernel_rfl
 have u8:∀{fuel:Nat} {c:Value} {x:DataW H×List MemPlace},DataW.trod enc ah W 0 (fun _=>true) hd fuel 5 [c]=some x->∃n:Nat,n<256/\c=.int .u8 n:=fun {fuel c x} h=>by
  obtain⟨n,e,_,b⟩:=Rh underlying5 h
  cases e
  simp only[Lit.wf,au,gE]at b;have G:IntKind.u8.min=0:=rfl;have I:IntKind.u8.max=255:=rfl;rw[G,I]at b;exact⟨n.toNat,om,by rw[cY b.1]⟩
 have u16:∀{fuel:Nat} {c:Value} {x:DataW H×List MemPlace},DataW.trod enc ah W 0 (fun _=>true) hd fuel 25 [c]=some x->∃n:Nat,n<65536/\c=.int .u16 n:=fun {fuel c x} h=>by
  obtain⟨n,e,_,b⟩:=Rh underlying25 h
  cases e
  simp only[Lit.wf,au,gE]at b;have G:IntKind.u16.min=0:=rfl;have I:IntKind.u16.max=65535:=rfl;rw[G,I]at b;exact⟨n.toNat,om,by rw[cY b.1]⟩
 have some_of:∀{α:Type} {l:List α} {i k:Nat},l.length=k->i<k->∃y,l[i]? = some y:=fun {α l i k} h1 h2=>⟨l[i]'om,a8 om⟩;obtain⟨xs,n,_,_,a,J,s⟩:=Vp underlying27 h;rw[C]at a;generalize K:v.cells.toList=cs at a s;obtain⟨U,L,t,g,V,M,rfl⟩:=len6 a;have X:DataW.trod enc ah W 0 (fun _=>true) hd n 24 (uV (ah.cellsOf 24) [U,L,t,g,V,M])=xs[0]?:=s 0 _ rfl;have Y:DataW.trod enc ah W 0 (fun _=>true) hd n 5 (uV (ah.cellsOf 5) [V,M])=xs[1]?:=s 1 _ rfl;have Z:DataW.trod enc ah W 0 (fun _=>true) hd n 25 (uV (ah.cellsOf 25) [M])=xs[2]?:=s 2 _ rfl;obtain⟨y0,e0⟩:=some_of J (om:0<3)
 obtain⟨y1,e1⟩:=some_of J (om:1<3)
 obtain⟨y2,e2⟩:=some_of J (om:2<3)
 rw[D,e0]at X;rw[E,e1]at Y;rw[F,e2]at Z;obtain⟨o,hq,rfl⟩:=u8 Y;obtain⟨p,ht,rfl⟩:=u16 Z;obtain⟨ys,n',_,_,_,u,w⟩:=Vp underlying24 X;have g0:DataW.trod enc ah W 0 (fun _=>true) hd n' 5 (uV (ah.cellsOf 5) [U,L,t,g])=ys[0]?:=w 0 _ rfl;have g1:DataW.trod enc ah W 0 (fun _=>true) hd n' 5 (uV (ah.cellsOf 5) [L,t,g])=ys[1]?:=w 1 _ rfl;have g2:DataW.trod enc ah W 0 (fun _=>true) hd n' 22 (uV (ah.cellsOf 22) [t,g])=ys[2]?:=w 2 _ rfl;have g3:DataW.trod enc ah W 0 (fun _=>true) hd n' 22 (uV (ah.cellsOf 22) [g])=ys[3]?:=w 3 _ rfl;obtain⟨w0,i0⟩:=some_of u (om:0<4)
 obtain⟨w1,i1⟩:=some_of u (om:1<4)
 obtain⟨w2,i2⟩:=some_of u (om:2<4)
 obtain⟨w3,i3⟩:=some_of u (om:3<4)
 rw[E,i0]at g0;rw[E,i1]at g1;rw[f,i2]at g2;rw[f,i3]at g3;obtain⟨j,N,rfl⟩:=u8 g0;obtain⟨m,O,rfl⟩:=u8 g1;obtain⟨z,q,r,P,Q,R⟩:=Ds underlying22 underlying41 kr g2
 obtain⟨A,B,z2,S,_,T⟩:=Ds underlying22 underlying41 kr g3
 cases P;cases S
 exact⟨j,m,o,p,_,_,q,B,r,z2,N,O,hq,ht,⟨Q,R⟩,T,Ln K⟩
def KY(J:laidMetH ah Rows.neighbourRawRow.laid W){a c d f:Nat}{j n s t w y:Value}{o z m mg mw l:Nat}{q z2 v:Nat->Int}{len lg lw:Nat->Nat}{A G T:aI}{p:Int}{mk:Bool}(K:a<256)(B:c<256)(L:d<256)(M:f<65536)(N:∀i,i<o->(Lit.int .i8 (q i)).wf=true)(C:Oh .i8 W j o q)(D:Oh .i8 W n z z2)(E:TM W s m len A)(F:TM W t mg lg G)(H:TM W w mw lw T)(O:Oh .i64 W y l v) :
  Calls ah 5 #[.agg #[.int .u8 a,.int .u8 c,j,n,.int .u8 d,.int .u16 f],s,t,w,.int .i64 p,y,.bool mk] W fun e W'=>e=.returned (.bool true)/\Below W.heap.size W W':=by
 have hargs:aT W St.none.dom [Az a c o q z (fun i=>.int .i8 (z2 i)) d f,jb m len A,jb mg lg G,jb mw lw T,.int .i64 p,aK l v,.bool mk] [.agg #[.int .u8 a,.int .u8 c,j,n,.int .u8 d,.int .u16 f],s,t,w,.int .i64 p,y,.bool mk]:=by
  simp only[aT];refine⟨?_,E.rep,F.rep,H.rep,by simp[bs],O.rep,by simp[bs],trivial⟩
  unfold Az;simp only[bs];refine⟨[.int .u8 a,.int .u8 c,j,n,.int .u8 d,.int .u16 f],?_,?_⟩
  .simp only[dD,GO,C.cells,D.cells];rfl
  .simp only[aT];exact⟨by simp[bs],by simp[bs],C.rep,D.rep,by simp[bs],by simp[bs],trivial⟩
 refine(KZ (fun S _=>(Iz S).mono fun r S' h=>⟨h.1,by rw[h.2];exact ft.refl S⟩) St.none trivial a c o q z (fun i=>.int .i8 (z2 i)) d f K B L M (fun i P=>bounds_i8 (N i P)) m len A mg lg G mw lw T p l v mk E.1 F.1 H.1 W _ ⟨rfl,Ih J,fun b x Q=>by cases Q⟩ hargs).mono ?_
 rintro e w' ⟨u,r,S',rfl,⟨rfl,U⟩,I,R,g⟩;simp only[bs]at I;subst I;exact⟨rfl,g.os,g.tape,g.output,g.size,fun k B=>g.keep k B fun h=>h rfl⟩
def own:ownKnob ah.godebug=ab:=by kernel_rfl
def qa:laidOutB ah=true:=by kernel_rfl
def SP(os:Os)(started:os.Started)(H:Type)(enc:TypeId×Value->H) :
  ReturnsInHanded {} Tryz.checked os 5 .any (fun w args=>(Rows.neighbourRawSpec.pre enc ah Tryz.f5 Rows.neighbourRawRow.domain false w args/\laidMetH ah Rows.neighbourRawRow.laid w)/\sizedMet enc ah Tryz.f5 (OpenSpec.ofChange Rows.neighbourRawSpec) false w args)
   (Rows.neighbourRawSpec.post enc ah Tryz.f5 false true false false):=by
 refine returnsInHanded_of_change_and (C:=Tryz.checked) (X:=fun w _=>laidMetH ah Rows.neighbourRawRow.laid w) (fun _ _ _ Z h=>h.of_heap Z) own started kr func5
  (ChangeSpec.witness_shaped (enc:=enc) (C:=Tryz.checked) (os:=os) (X:=fun w _=>laidMetH ah Rows.neighbourRawRow.laid w) false (World.laidAll ah os Rows.neighbourRawRow.laid) #[.agg #[.int .u8 0,.int .u8 0,.slice ab 0 0,.slice ab 0 0,.int .u8 0,.int .u16 0],.slice ab 0 0,.slice ab 0 0,.slice ab 0 0,.int .i64 0,.slice ab 0 0,.bool false] 8 (World.laidAll_os _ _ _)
   (World.shaped_of_ZipB kr kr) kr kr kr
   (by rw[MakeChecks.laidMetH_plain _ _ _ kr];exact laidMet_laidAll _ kr kr)) ?_
 intro W base args ds gs before f J _ _ hL _;have g:=J;obtain⟨p,q,i,hV,rfl,_,_⟩:=J;have K:DataW.TrodAll enc ah W 0 (fun _=>true) true Tryz.f5.params.toList args.toList ds p:=i;have a:∀(j:Nat) t v,Tryz.f5.params[j]? = some t->args[j]? = some v->Value.okWide ah W .any base t v:=f;rw[params5]at K a;obtain⟨v,vs,d,ds',L,q1,hargs,rfl,rfl,k,n⟩:=trodAll_cons K;obtain⟨M,vs2,d2,ds2,N,q2,rfl,rfl,rfl,o,r⟩:=trodAll_cons n;obtain⟨O,s,d3,ds3,P,q3,rfl,rfl,rfl,u,y⟩:=trodAll_cons r;obtain⟨Q,R,S,U,d4,d5,d6,d7,p4,p5,p6,p7,e,rfl,rfl,B,V,D,Y⟩:=trodAll_four (args:=s.toArray) y;obtain rfl:args=#[v,M,O,Q,R,S,U]:=by cases args;simp_all
 obtain⟨rfl,rfl⟩:=trodVars_none hV;obtain⟨d0,k0,q0,t0,s1,s2,n1,n2,z1,z2,b1,b2,b3,b4,⟨hz,E⟩,F,rfl⟩:=KQ k;obtain⟨m,len,A,r2⟩:=vZ (a 1 28 M rfl rfl) o;obtain⟨mg,lg,G,r3⟩:=vZ (a 2 28 O rfl rfl) u;obtain⟨mw,lw,T,r4⟩:=vZ (a 3 28 Q rfl rfl) B;obtain⟨z,rfl⟩:=okWide_int nI (a 4 2 R rfl rfl);obtain⟨a3,len3,cap3,rfl⟩:=okWide_slice underlying29 (a 5 29 S rfl rfl);obtain⟨mk,rfl⟩:=okWide_bool CM (a 6 4 U rfl rfl);obtain⟨f6,h6f⟩:=id D;obtain⟨s4,l,x,e4,_,I⟩:=Ds underlying29 nI kr h6f
 obtain rfl:ao a3 len3 cap3=s4:=(oX.inj e4).1;have b:∀{t:TypeId} {v:Value} {d:DataW H} {p:List MemPlace},DataW.Trod enc ah W 0 (fun _=>true) true t v d p->∀x∈p,x.block<W.heap.size:=fun⟨_,h⟩ x hx=>DataW.trod_lt _ _ _ _ h x hx;refine(KY hL (p:=z) (mk:=mk) b1 b2 b3 b4 hz E F r2 r3 r4 I).mono fun e W' ⟨he,c⟩=>?_;subst he;rw[EM,EM]at g;refine⟨_,rfl,_,_,_,[],L++(N++(P++(p4++(p5++(p6++p7))))),[],g,?_,?_,rfl,c.frame _,fun h=>by cases h⟩
 .exact trodAll_mk1 (shut_bool CM _)
 .exact⟨L,_,ya qa kr (ic kr) k c (b k),⟨N,_,ya qa kr (ic kr) o c (b o),⟨P,_,ya qa kr (ic kr) u c (b u),trodAll_mk4 (ya qa kr (ic kr) B c (b B)) (ya qa kr (ic kr) V c (b V)) (ya qa kr (ic kr) D c (b D)) (ya qa kr (ic kr) Y c (b Y)),rfl⟩,rfl⟩,rfl⟩

end Go.Proofs.YtdobfmlmenaajaaGreatDoor
