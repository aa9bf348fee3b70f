/-
  Lemmas for NeighbourKeeps.
-/
import Derived.Test.YtdobfmlmenaajaaGreatDoorL32
import Derived.Test.YtdobfmlmenaajaaGreatDoorL31
namespace Go.Proofs.YtdobfmlmenaajaaGreatDoor
open Go.RowKit Tryz
open _root_.Int renaming le_of_lt→aS,mul_ediv_cancel_left→cc,le_trans→dq,sign_eq_zero_iff_zero→iZ,ofNat_sub→rW
open _root_.List renaming all_eq_true→ap,not_mem_nil→aG
open _root_.Nat renaming add_one_le_iff→aa,le_refl→af,mul_le_mul_right→ay,zero_add→aJ,sub_self→bH,le_trans→bI,mul_le_mul→bK,succ_mul→ck,sub_sub→oI
open _root_.Ne renaming symm→ai
open _root_.Option renaming none→ae,some→eL
open _root_.Or renaming inr→aK
set_option maxHeartbeats 6400000
set_option maxRecDepth 4096
set_option linter.all false
attribute [local go_sem] Nat.reduceAdd Nat.reduceEqDiff Nat.reduceLeDiff Nat.reduceLT reduceCtorEq Int.ofNat_lt decide_true decide_false Int.zero_le_ofNat
attribute [local go_sem ↓] reduceIte
variable{x:AV}{K:AV->St->Prop}{z:Int}{b bl bm bs e i j k k0 n:Nat}{g g2 gm z0:Nat->AV}{gl ρ:Nat->Nat}{S S0 V:St}{A B L Q U:aB}{M:oC}
theorem yX(n m k:Nat)(A:aB)(i j:Nat)(a:i<m)(b:j<n)(c:nb (A j i) k)(d:k<=1000000):PF 156 [.int .i64 i,.int .i64 j,.pat 1 (aV n m A)] (.big (A j i)):=by
 refine PF.of_spec (ak func156 rfl 14 ntmps156 kr sm (by simp[results156]) ?_)
 rw[aF,results156];simp -dsimp only[go_sem];refine au.intro fun bc fc=>?_
 try simp -dsimp only[go_sem,aV,bA,a,b]
 refine(qK c om).call ?_;simp -dsimp only[go_sem,aa];exact VR.mf rfl
theorem mT(n m k:Nat)(A:aB)(f:1<=n)(a:n<=16)(h:1<=m)(c:m<=16)(l:∀i j,i<n->j<m->nb (A i j) k)(o:k<=1000000):Aa 94 [aV n m A] m n (fun i j=>A j i):=by
 refine Aa.of ?_;refine ak func94 rfl 19 ntmps94 kr sm (by simp[results94]) ?_
 rw[aF,results94];simp -dsimp only[go_sem,aa,aV,bA];refine au.intro fun bc fc=>?_
 try simp -dsimp only[go_sem]
 refine(ks n m A f a h c).call ?_;simp -dsimp only[go_sem,aa];refine(qe m n 156 [.pat 1 (aV n m A)] (fun i j=>A j i) om c a (fun i j d e=>yX n m k A i j d e (l j i e d) o) _ _ (dT.fn1 (dT.one (VA.ptr (cE.new rfl) (VA.refl _ _))))).mono ?_;rintro _ S1 ⟨b,g,rfl,p⟩;simp -dsimp only[go_sem];exact⟨b,rfl,g,p.1⟩
theorem cC.appx{t es:Nat}{S3:St}{y v:AV}(l:dw t=some e)(m:(fD e).isSome=true)(f:es=bS e)(a:cY S S3)(h:cC e es S0 S x j g)(n:j<1000000)(o:dN es v)
  (p:∃b gb ty,y=.sl es b 0 1/\S3 b=some ⟨ty,es,1,gb⟩/\gb 0=v/\S b=ae)
  (q:∀c S',cC e es S0 S' (.sl es c 0 (j+1)) (j+1) (fun i=>if i=j then v else g i)->(∀d X,S d=some X->¬dl x d->S' d=some X)->(dl x c∨S c=ae)->K (.sl es c 0 (j+1)) S'):fZ t t x y S3 K:=by
 obtain⟨b,gb,ty,rfl,r,s,u⟩:=p;have w:cC e es S0 S3 x j g:=h.keep (x:=.nil) (h.1.trans a) (fun d X k _=>a d X k) (fun d _=>by rintro⟨_,_,_,e⟩;cases e)
 refine cC.app l m f w n o (aK ⟨b,gb,ty,rfl,r,s,fun z=>h.fresh u b z rfl⟩) fun c S' A B C=>q c S' A (fun d X k D=>B d X (a d X k) D) (C.imp id fun h=>a.none h)
theorem oe(S:St)(d n p:Nat)(H:aB)(v:Nat->Nat)(hF:gH n H)(hg:j9 (det n H) p)(hp:p∈cM)(hL:kU n p H v)(hd:aR S d 2 1 n (fun k=>.int .i64 ((v k:Nat):Int)))(hG:iT S) :
  cL 41 [ax n n H,.int .i64 p,.sl 1 d 0 n] S (fun r S'=>∃b c g B Q,r=.tup [.sl 1 b 0 n,.sl 1 c 0 n,.int .i64 0]/\lH n p H v B/\(∀i j,i<n->j<n->mm n (mm n (fun i j=>B j i) H) B i j=p*p*Q i j/\(Q i j).natAbs<=246591576450)/\dd S' c g n n Q/\cY S S'):=by
 have J:=hF.one;have hn:=hF.five;have w:3<=p/\p<=17:=by
  have hp':=hp;simp only[cM,List.mem_cons,aG,or_false]at hp';omega
 have hpp:(p:Int)*p<=289/\9<=(p:Int)*p:=by
  rw[<-Int.natCast_mul];have a:=bK w.2 w.2;have b:=bK w.1 w.1;omega
 have wpp:IntKind.i64.wrap ((p:Int)*p)=(p:Int)*p:=i64_in om om;refine ak func41 rfl 108 ntmps41 kr sm (by simp[results41]) ?_
 rw[aF,results41];simp -dsimp only[go_sem,aa];refine(Bn S d n p H v hF hg hp hL hd hG).mono ?_;rintro _ S1 ⟨b,g,B,rfl,hB,hM1,hE1⟩;simp -dsimp only[go_sem,aa,bne_self_eq_false];refine(nT n n H J om J om (fun i j m o=>by have:=hF.ent i j m o;omega) S1 _ (cD _ _)).mono ?_
 rintro _ S2 ⟨bf,gf,rfl,hf⟩;have hM2:=hM1.ext hf.2.1;have K:∀i j,i<n->j<n->nb (B i j) 9:=fun i j m o=>by have:=hB.ent hp m o;unfold nb;omega
 have hHn:∀i j,i<n->j<n->nb (H i j) 17:=fun i j m o=>hF.ent.nb m o;simp -dsimp only[go_sem,aa];refine(mT n n 9 B J om J om K om S2 _ (dT.one hM2.vr.va)).mono ?_;rintro _ S3 ⟨bt,gt,rfl,ht⟩;have hM3:=hM2.ext ht.2.1;have hf3:=hf.1.ext ht.2.1;simp -dsimp only[go_sem,aa];refine(oK n n n 17 (fun i j=>B j i) H J om J om J om (fun i j m o=>(K j i o m).mono om) hHn om S3 _ (dT.two ht.1.vr.va hf3.vr.va)).mono ?_;rintro _ S4 ⟨b1,g1,rfl,L⟩;have hM4:=hM3.ext L.2.1;have hmn:∀i j,i<n->j<n->nb (mm n (fun i j=>B j i) H i j) 31:=fun i j m o=>(qL (f:=fun k=>B k i*H k j) (k:=26) n fun k hk=>(K k i hk m).mul (hHn k j hk o)).mono om;simp -dsimp only[go_sem,aa];refine(oK n n n 31 (mm n (fun i j=>B j i) H) B J om J om J om hmn (fun i j m o=>(K i j m o).mono om) om S4 _ (dT.two L.1.vr.va hM4.vr.va)).mono ?_;rintro _ S5 ⟨bp,gp,rfl,hm2⟩;have N:=fun i j (m:i<n) (o:j<n)=>hB.gram_ent hF hp m o;have R:=fun i j (m:i<n) (o:j<n)=>hB.gram hF hp m o;have hP5:=hm2.1;have hE5:cY S S5:=(((hE1.trans hf.2.1).trans ht.2.1).trans L.2.1).trans hm2.2.1;generalize hPP:mm n (mm n (fun i j=>B j i) H) B=P at *;clear hm2 L hf ht hf3 hM4 hM3 hM2 hM1 hmn;simp -dsimp only[go_sem,aa,wpp];refine(fQ (a:=(p:Int)*p) om om).call ?_;simp -dsimp only[go_sem];refine au.intro fun l f15=>?_;simp -dsimp only[go_sem,aa];have hV6:cE ((S5.upd l ⟨50,2,1,fun _=>.big 0⟩).upd l ⟨50,2,1,aL (fun _=>.big 0) 0 (.big ((p:Int)*p))⟩) l 50 2 (.big ((p:Int)*p)):=cE.set;have hE6:cY S5 ((S5.upd l ⟨50,2,1,fun _=>.big 0⟩).upd l ⟨50,2,1,aL (fun _=>.big 0) 0 (.big ((p:Int)*p))⟩):=((cY.refl S5).upd f15 _).upd f15 _;have hP6:=hP5.ext hE6;refine cg (fun O S=>∃(i:Nat) (x:AV) (g:Nat->Nat),i<=n/\O 6=.sl 1 b 0 n/\O 7=x/\O 15=.ptr 2 l 0/\O 62=.sl 1 bp 0 n/\O 63=.int .i64 n/\O 64=.int .i64 i /\
  cC 59 1 ((S5.upd l ⟨50,2,1,fun _=>.big 0⟩).upd l ⟨50,2,1,aL (fun _=>.big 0) 0 (.big ((p:Int)*p))⟩) S x i (fun a=>.sl 2 (g a) 0 n)/\(∀a,a<i->ic S (g a) n (fun j=>P a j/(p*p)))/\∀a c,a<i->c<i->g a=g c->a=c) (fun O S=>n-bT (O 64)) ?_ ?_
 ·simp -dsimp only[go_sem];exact⟨0,om,rfl,fun _=>0,cC.nil (cY.refl _) _,fun a E=>om,fun a c E=>om⟩
 generalize (S5.upd l ⟨50,2,1,fun _=>AV.big 0⟩).upd l ⟨50,2,1,aL (fun _=>AV.big 0) 0 (AV.big ((p:Int)*p))⟩=S6 at *;rintro Q' hQ' O S ⟨i,x,g,m,e6,T,A,s,t,u,q,U,hI⟩;by_cases C:i<n
 ·have hP:=hP6.ext q.1;obtain⟨g1,u1,v1⟩:=id hP.outer;have x1:g1 i=.sl 2 (gp i) 0 n:=v1 i C;simp -dsimp only[go_sem,aa,s,t,u,C,u1,x1];refine cg (fun O S'=>∃(j:Nat) (y:AV),j<=n/\O 6=.sl 1 b 0 n/\O 7=x/\O 15=.ptr 2 l 0/\O 18=y/\O 62=.sl 1 bp 0 n/\O 63=.int .i64 n/\O 64=.int .i64 i/\O 68=.sl 2 (gp i) 0 n/\O 69=.int .i64 n/\O 70=.int .i64 j /\
   cC 59 1 S6 S' x i (fun a=>.sl 2 (g a) 0 n)/\(∀a,a<i->ic S' (g a) n (fun j=>P a j/(p*p))/\¬dl y (g a))/\cC 50 2 S6 S' y j (fun c=>.big (P i c/(p*p)))/\∀d,dl x d->¬dl y d) (fun O S=>n-bT (O 70)) ?_ ?_
  ·simp -dsimp only[go_sem,e6,T,A,s,t,u];exact⟨0,om,rfl,q,fun a E=>⟨U a E,by rintro⟨_,_,_,e⟩;cases e⟩,cC.nil q.1 _,fun d _=>by rintro⟨_,_,_,e⟩;cases e⟩
  clear e6 T A s t u q U hP u1 v1 x1;rintro Q2 hQ2 O S' ⟨j,y,o,e6,T,A,F,s,t,u,e68,e69,e70,q,U,hY,hXY⟩;by_cases G:j<n
  ·have hP:=hP6.ext q.1;obtain⟨g1,u1,v1⟩:=id (hP.row i C);have x1:g1 j=.big (P i j):=v1 j G;have hV:=hV6.ext q.1;have hb1:=N i j C G;obtain⟨z,hz⟩:=R i j C G;have hq:P i j/((p:Int)*p)=z:=by rw[hz,cc _ om]
   have hzb:z.natAbs<=246591576450:=by
    rw[<-hq];exact bI (sN om) hb1
   simp -dsimp only[go_sem,aa,e68,e69,e70,G,u1];refine au.intro fun b20 f20=>?_;obtain⟨g2,u2,v2⟩:=(id hV.get);have n20:l≠b20:=hV.fresh f20;simp -dsimp only[go_sem,aa,A,x1,n20,u2,v2,dr];refine(o0 (a:=P i j) (b:=(p:Int)*p) (k:=64) (by unfold nb;omega) (by unfold nb;omega) om om).call ?_
   rw[hq];simp -dsimp only[go_sem];refine au.intro fun b21 f21=>?_;have n21_20:=(ag f21).1
   try simp -dsimp only[go_sem]
   refine au.intro fun b22 f22=>?_;have n22_21:=(ag f22).1;have n22_20:=(ag (ag f22).2).1
   try simp -dsimp only[go_sem,nn n22_21]
   refine(pR (a:=z) (by unfold iF;omega)).call ?_
   simp -dsimp only[go_sem,aa,F,ai n22_21,(om:¬(z < -4611686018427387904)),(om:¬((4611686018427387904:Int)<z)),dr]
   refine au.intro fun b98 D=>?_;have n98_22:=(ag D).1;have n98_21:=(ag (ag D).2).1;have n98_22:=(ag (ag (ag D).2).2).1;have n98_21:=(ag (ag (ag (ag D).2).2).2).1;have n98_20:=(ag (ag (ag (ag (ag D).2).2).2).2).1
   try simp -dsimp only[go_sem,F]
   have V:S' b21=ae:=by simpa only[aH n21_20]using f21
   have W:S' b22=ae:=by simpa only[aH n22_21,aH n22_20]using f22
   have Y:S' b98=ae:=by simpa only[aH n98_22,aH n98_21,aH n98_20]using D
   refine cC.appx rfl rfl rfl ((((((((cY.refl S').upd f20 _).upd f20 _).upd V _).upd W _).upd V _).upd W _).upd Y _) hY om (show dN 2 (.big z)from trivial) ⟨_,_,_,rfl,bR,rfl,Y⟩ ?_;intro c S2 hY' I M;simp -dsimp only[go_sem,e6,T,A,F,s,t,u,e68,e69,e70,aM (om:j<1000000),bT]
   refine⟨⟨j+1,om,rfl,q.keep hY'.1 I hXY,fun a E=>?_,hY'.congr fun a E=>?_,fun d hd he=>?_⟩,om⟩
   ·obtain⟨r1,r2⟩:=U a E;refine⟨r1.via fun X q=>I _ _ q r2,fun hb=>?_⟩;rw[dk]at hb;rw[<-hb]at M;rcases M with h|h
    ·exact r2 h
    ·exact aR.fresh r1 h rfl
   ·by_cases e:a=j
    ·subst e;rw[if_pos rfl,hq]
    ·rw[if_neg e]
   ·rw[dk]at he;subst he;rcases M with h|h
    ·exact hXY d hd h
    ·exact q.fresh h d hd rfl
  ·obtain rfl:j=n:=om
   rcases hY.2 with⟨h0,_⟩|⟨c,_,rfl,hC⟩
   ·omega
   simp -dsimp only[go_sem,aa,e68,e69,e70,G];rw[hQ2];simp -dsimp only[go_sem,T,F];refine au.intro fun b103 Z=>?_
   try simp -dsimp only[go_sem,T]
   refine cC.appx rfl rfl rfl ((cY.refl S').upd Z _) q om (show dN 1 (.sl 2 c 0 j)from trivial) ⟨_,_,_,rfl,bR,rfl,Z⟩ ?_;intro d S2 hX' I M;have hxc:¬dl x c:=fun h=>hXY c h (dk.2 rfl);simp -dsimp only[go_sem,e6,T,A,F,s,t,u,aM (om:i<1000000),bT]
   refine⟨⟨i+1,om,rfl,fun a=>if a=i then c else g a,hX'.congr fun a E=>by grind,fun a E=>?_,fun a d E hd e=>?_⟩,om⟩
   ·by_cases e:a=i
    ·subst e;simp only[if_true];exact hC.via fun X q=>I _ _ q hxc
    ·simp only[e,if_false];obtain⟨gg,hgg,hg2⟩:=(U a om).1;exact⟨gg,I _ _ hgg (q.other hgg om),hg2⟩
   ·have k1:=fun a E=>(U a E).2;simp only[dk]at k1
    grind
 have hin:i=n:=om
 rw[hin]at q U hI;rcases q.2 with⟨h0,_⟩|⟨c,_,rfl,hC⟩
 ·omega
 simp -dsimp only[go_sem,aa,s,t,u,C];rw[hQ'];simp -dsimp only[go_sem,e6,T];refine⟨b,c,rfl,g,B,hB,fun i j=>P i j/(p*p),fun i j m o=>⟨?_,?_⟩,⟨hC,U,hI⟩,(hE5.trans hE6).trans q.1⟩
 ·rw[hPP,Int.mul_ediv_cancel' (R i j m o)]
 ·exact bI (sN om) (N i j m o)

theorem si(n:Nat)(A:aB)(a:1<=n)(b:n<=16):PF 242 [aV n n A] (.tup [.int .i64 n,.bool true]):=by
 refine PF.of_spec (ak func242 rfl 20 ntmps242 kr sm (by simp[results242]) ?_)
 rw[aF,results242];simp -dsimp only[go_sem,aa];refine(kA n n A a b a b).call ?_;simp -dsimp only[go_sem,beq_self_eq_true];exact VR.tup (by simp[qN])
theorem MG:cI 192 1 [(0,x)] S K=(dN 1 x/\au S (fun b=>K (.sl 1 b 0 1) (S.upd b ⟨52,1,1,fun j=>[x].getD j .any⟩))):=by
 simp only[cI,dw,bS];simp[d9,fD,au]
def pH(n:Nat)(A:aB):AV:=.lst 1 n (fun k=>aV (n-k) (n-k) (ca A k))
theorem zX(n K:Nat)(A:aB)(o:1<=n)(w:n<=16)(hK:K<=1000000)(hS:∀k i j,k+i<n->k+j<n->nb (ca A k i j) K)(W:∀k,k<=n->det k A≠0)(hd1:∀k,k<n->nb (det k A) K):PF 204 [aV n n A] (.tup [pH n A,.bool true]):=by
 have hA:∀i j,i<n->j<n->nb (A i j) K:=fun i j Y G=>by have:=hS 0 i j om om;rwa [eS]at this
 refine PF.of_spec (ak func204 rfl 62 ntmps204 kr sm (by simp[results204]) ?_)
 rw[aF,results204];simp -dsimp only[go_sem,aa,aV,bA];refine au.intro fun b1 f1=>?_;simp -dsimp only[go_sem];refine(si n A o w).call ?_;simp -dsimp only[go_sem,aa];refine(wG n n 244 [.pat 1 (aV n n A)] A om o w o w (fun i j Y G=>M1 n A i j K Y G (hA i j Y G) om) _ _ (dT.fn1 (dT.one (VA.ptr (cE.new rfl) (VA.refl _ _))))).mono ?_;rintro _ S1 ⟨b0,e0,rfl,y,hE0,hn0,hm0⟩;simp -dsimp only[go_sem,aa];refine(fQ (a:=1) om om).call ?_;simp -dsimp only[go_sem];refine au.intro fun l f7=>?_;simp -dsimp only[go_sem,aa];have H:ko ((S1.upd l ⟨50,2,1,fun _=>.big 0⟩).upd l ⟨50,2,1,aL (fun _=>.big 0) 0 (.big 1)⟩) b0 e0 n n A:=y.ext (((cY.refl S1).upd f7 _).upd f7 _);have p:e0≠l:=fun h=>by obtain⟨g,o,_⟩:=y.inner;rw[h,f7]at o;cases o
 refine cg (fun O S=>∃(k:Nat) (x:AV) (bs es:Nat->Nat),k<n/\O 4=.int .i64 n/\O 6=.sl 1 (bs k) 0 (n-k)/\O 7=.ptr 2 l 0/\O 8=x/\O 23=.int .i64 n/\O 24=.int .i64 k/\cE S l 50 2 (.big (det k A))/\cC 52 1 St.none S x k (fun a=>.sl 1 (bs a) 0 (n-a))/\(∀a,a<=k->ko S (bs a) (es a) (n-a) (n-a) (ca A a)/\es a≠l)) (fun O S=>n-bT (O 24)) ?_ ?_
 ·simp -dsimp only[go_sem];exact⟨0,om,.nil,fun _=>b0,rfl,rfl,rfl,cE.set,cC.nil (fun k X h=>by cases h) _,fun _=>e0,fun a E=>by
   obtain rfl:a=0:=om
   exact⟨by rw[Nat.sub_zero,show ca A 0=A from funext fun _=>funext fun _=>eS ..];exact H,p⟩⟩
 clear H p y hE0;rintro Q' hQ' O S ⟨k,x,bs,es,hk,Z,I,e7,e8,J,L,hV,s,hF⟩;obtain⟨g7,u7,v7⟩:=id hV;have hx7:¬dl x l:=s.other u7 om;simp -dsimp only[go_sem,I,e8,J,L,hk,MG];refine au.intro fun b29 M=>?_
 try simp -dsimp only[go_sem,e8]
 refine cC.appx rfl rfl rfl ((cY.refl S).upd M _) s om (show dN 1 (.sl 1 (bs k) 0 (n-k))from trivial) ⟨_,_,_,rfl,bR,rfl,M⟩ ?_;intro c S2 N z hk3;have hV2:cE S2 l 50 2 (.big (det k A)):=⟨g7,z _ _ u7 hx7,v7⟩;have B:∀a,a<=k->ko S2 (bs a) (es a) (n-a) (n-a) (ca A a)/\es a≠l:=fun a E=>by
  obtain⟨o,w⟩:=hF a E;obtain⟨g,F,h4⟩:=o.inner;obtain⟨g',h5,h6⟩:=o.outer;exact⟨o.via (fun X s=>z _ _ s (by rw[h5]at s;exact cC.other ‹_› h5 om)) (fun X s=>z _ _ s (by rw[F]at s;exact cC.other ‹_› F om)),w⟩
 obtain⟨g8,u8,v8⟩:=id hV2;have P:IntKind.i64.wrap ((n:Int)-1)=((n-1:Nat):Int):=by rw[rW o];exact i64_in om om
 by_cases hlast:k+1=n
 ·have hb:((k:Int)==((n-1:Nat):Int))=true:=by simp;omega
  simp -dsimp only[go_sem,aa,Z,I,e8,P,hb];rw[hQ'];simp -dsimp only[go_sem];rcases N.2 with⟨h0,_⟩|⟨c',_,C,hC⟩
  ·omega
  cases C
  refine VR.tup2 ?_ (VR.mf rfl);unfold pH;rw[<-hlast];refine VR.sl hC om fun a E=>?_;rw[aJ];have F:=(B a om).1.vr;rw[<-hlast]at F;by_cases e:a=k
  ·subst e;simp only[if_true];rw[<-hlast];exact F
  ·simp only[e,if_false];rw[<-hlast];exact F
 ·have hb:((k:Int)==((n-1:Nat):Int))=false:=by simp;omega
  obtain⟨D,hek⟩:=B k (af _);obtain⟨g9,u9,v9⟩:=id D.outer;obtain⟨g5,u5,v5⟩:=id D.inner;have m:0<n-k:=om
  have x9:g9 0=.sl 2 (es k) 0 (n-k):=(v9 0 m).trans sm
  have x5:g5 0=.big (ca A k 0 0):=by have:=v5 0 0 m m;rwa [Nat.zero_mul]at this
  have t:0<(n-k)*(n-k):=Nat.mul_pos m m;simp -dsimp only[go_sem,aa,Z,I,e8,P,hb,u9,x9,u5,x5,m,t]
  repeat refine an ?_
  have Q:=cA A k;have hne:=W (k+1) om;refine(jp (hS k 0 0 om om) om).call ?_;have hsg:((ca A k 0 0).sign==0)=false:=by
   rw[Q];simp[iZ,hne]
  simp -dsimp only[go_sem,I,x9,x5,hsg];refine au.intro fun d q=>?_;have w0:IntKind.i64.wrap ((n:Int)-k)=((n-k:Nat):Int):=by
   rw[show(n:Int)-k=((n-k:Nat):Int) by omega];exact i64_in om om
  have wn:IntKind.i64.wrap (IntKind.i64.wrap ((n:Int)-k)-1)=((n-k-1:Nat):Int):=by
   rw[w0,show((n-k:Nat):Int)-1=((n-k-1:Nat):Int) by omega];exact i64_in om om
  try simp -dsimp only[go_sem,Z,I,e7,wn]
  have h10:d≠l:=fun h=>by rw[h,u8]at q;cases q
  have r:cY S2 ((S2.upd d ⟨52,1,1,fun _=>.nil⟩).upd d ⟨52,1,1,aL (fun _=>.nil) 0 (.sl 1 (bs k) 0 (n-k))⟩):=((cY.refl S2).upd q _).upd q _;have u:cE ((S2.upd d ⟨52,1,1,fun _=>.nil⟩).upd d ⟨52,1,1,aL (fun _=>.nil) 0 (.sl 1 (bs k) 0 (n-k))⟩) d 52 1 (.sl 1 (bs k) 0 (n-k)):=cE.set;generalize (S2.upd d ⟨52,1,1,fun _=>AV.nil⟩).upd d ⟨52,1,1,aL (fun _=>AV.nil) 0 (AV.sl 1 (bs k) 0 (n-k))⟩=S3 at *;have hq:∀i j,(ca A k 0 0*ca A k (i+1) (j+1)-ca A k (i+1) 0*ca A k 0 (j+1))/det k A=ca A (k+1) i j:=fun i j=>by
   rw[ix (fun j G=>W j om),cc _ (W k om)]
  refine(wG (n-k-1) (n-k-1) 245 [.pat 1 (aV (n-k) (n-k) (ca A k)),.pat 2 (.big (det k A))] (ca A (k+1)) om om om om om (fun i j Y G=>hq i j▸M0 (n-k) (ca A k) (det k A) i j K om om om (fun a b E hb=>hS k a b om om) (hd1 k hk) om (W k om)) _ _ (dT.fn1 (dT.two (VA.ptr u (D.ext r).vr.va) (VA.ptr (r.has (b:=l) (n:=1) (g:=g8) ⟨g8,u8,fun _ _=>rfl⟩ |> fun h=>by obtain⟨g,o,w⟩:=h;exact⟨g,o,(w 0 om).trans v8⟩) (VA.refl _ _))))).mono ?_
  rintro _ S4 ⟨b',e',rfl,hF',R,T,v⟩;have f:=r.trans R;have u84:=f _ _ u8;obtain⟨g10,u10,v10⟩:=id u;have U:=R _ _ u10;have u94:=f _ _ u9;have u54:=f _ _ u5;simp -dsimp only[go_sem,aa,Z,e7,J,L,u84,U,v10,u94,x9,u54,x5,m,t,aM (om:k<1000000),bT]
  repeat refine an ?_
  rcases N.2 with⟨h0,_⟩|⟨c',_,C,hC⟩
  ·omega
  cases C
  have V:=r _ _ u8;have hb7:b'≠l:=fun h=>by rw[h,V]at T;cases T
  have p:e'≠l:=fun h=>by rw[h,V]at v;cases v
  have hc7:c≠l:=aR.ne hC (aR.of u8) om;refine⟨⟨k+1,om,.sl 1 c 0 (k+1),fun a=>if a=k+1 then b' else bs a,by dsimp only;rw[if_pos rfl,(om:n-(k+1)=n-k-1)],rfl,rfl,by rw[<-Q];exact cE.set,⟨fun k X h=>(by cases h),aK ⟨c,rfl,rfl,((f.has hC).upd hc7 _).congr fun a E=>?_⟩⟩,fun a=>if a=k+1 then e' else es a,fun a E=>?_⟩,om⟩
  ·by_cases e:a=k
   ·subst e;dsimp only;rw[if_pos rfl,if_neg om]
   ·dsimp only;rw[if_neg e,if_neg om]
  ·dsimp only;by_cases e:a=k+1
   ·subst e;rw[if_pos rfl,if_pos rfl,(om:n-(k+1)=n-k-1)]
    exact⟨hF'.via (fun X h=>(aH hb7).trans h) (fun X h=>(aH p).trans h),p⟩
   ·rw[if_neg e,if_neg e];obtain⟨p1,p2⟩:=B a om;have hba:bs a≠l:=aR.ne p1.outer (aR.of u8) om;exact⟨(p1.ext f).via (fun X h=>(aH hba).trans h) (fun X h=>(aH p2).trans h),p2⟩

def stV(bm bl n:Nat):Nat->AV:=fun j=>[AV.sl 2 bm 0 (n+1),.sl 1 bl 0 n,.nil,.nfn].getD j .any
structure tF(T:St)(n:Nat)(x4:AV)(L:Nat->Bool)(O:Tm)(S:St):Prop where
 b3:O 3=.int .i64 n
 b4:O 4=x4
 p0:L 0=true->O 16=.int .i64 n
 p1:L 1=true->O 17=.int .i64 ((n+1:Nat):Int)
 p3:L 3=true->O 19=.int .i64 n
 ext:cY T S
 ex:∃bm bl bs,(L 2=true->O 18=.sl 2 bm 0 (n+1)/\aR S bm 50 2 (n+1) (fun _=>.big 0)/\T bm=ae)/\(L 4=true->O 20=.sl 1 bl 0 n/\aR S bl 59 1 n (fun _=>.nil)/\T bl=ae) /\
  (L 5=true->L 2=true/\L 4=true/\O 21=.agg [.sl 2 bm 0 (n+1),.sl 1 bl 0 n,.nil,.nfn])/\(L 6=true->L 5=true/\O 22=.ptr 1 bs 0/\aR S bs 160 1 4 (stV bm bl n)/\T bs=ae)/\(L 7=true->L 6=true/\O 6=.ptr 1 bs 0)
section
variable {T:St} {n:Nat} {x4:AV} {L:Nat->Bool} {O:Tm} {S:St}
theorem tF.pure(h:tF T n x4 L O S){i d:Nat}{z:AV}(a:d≠3/\d≠4/\d≠18/\d≠20/\d≠21/\d≠22/\d≠6)(b:i≠2/\i≠4/\i≠5/\i≠6/\i≠7)
  (c:(if 0=i then true else L 0)=true->(O.put (some d) z) 16=.int .i64 n) (e:(if 1=i then true else L 1)=true->(O.put (some d) z) 17=.int .i64 ((n+1:Nat):Int)) (f:(if 3=i then true else L 3)=true->(O.put (some d) z) 19=.int .i64 n) :
  tF T n x4 (fun k=>if k=i then true else L k) (O.put (some d) z) S:=by
 obtain⟨g,l,m,o,p,q,r⟩:=a;obtain⟨s,t,u,v,w⟩:=b;obtain⟨bm,bl,bs,x,y,A,B,C⟩:=h.ex;have k:∀j,j≠i->(if j=i then true else L j)=L j:=fun j D=>if_neg D
 refine⟨by rw[pt (ai g)];exact h.b3,by rw[pt (ai l)];exact h.b4,c,e,f,h.ext,bm,bl,bs,?_⟩
 rw[k 2 (ai s),k 4 (ai t),k 5 (ai u),k 6 (ai v),k 7 (ai w),pt (ai m),pt (ai o),pt (ai p),pt (ai q),pt (ai r)];exact⟨x,y,A,B,C⟩
theorem tF.s0(h:tF T n x4 L O S):tF T n x4 (fun k=>if k=0 then true else L k) (O.put (some 16) (.int .i64 n)) S :=
 h.pure dc dc (fun _=>pd) (fun a=>by rw[pt dc];exact h.p1 (fY a dc)) (fun a=>by rw[pt dc];exact h.p3 (fY a dc))
theorem tF.s1(h:tF T n x4 L O S):tF T n x4 (fun k=>if k=1 then true else L k) (O.put (some 17) (.int .i64 ((n+1:Nat):Int))) S :=
 h.pure dc dc (fun a=>by rw[pt dc];exact h.p0 (fY a dc)) (fun _=>pd) (fun a=>by rw[pt dc];exact h.p3 (fY a dc))
theorem tF.s3(h:tF T n x4 L O S):tF T n x4 (fun k=>if k=3 then true else L k) (O.put (some 19) (.int .i64 n)) S :=
 h.pure dc dc (fun a=>by rw[pt dc];exact h.p0 (fY a dc)) (fun a=>by rw[pt dc];exact h.p1 (fY a dc)) (fun _=>pd)
theorem tF.s2(h:tF T n x4 L O S)(b:L 2=false){c:Nat}(d:S c=ae)(z:Nat->AV)(l:∀i,i<n+1->z i=.big 0):tF T n x4 (fun k=>if k=2 then true else L k) (O.put (some 18) (.sl 2 c 0 (n+1))) (S.upd c ⟨50,2,n+1,z⟩):=by
 have e:=h.ext.none d;obtain⟨bm,bl,bs,x,m,o,p,q⟩:=h.ex;have f:L 5=true->False:=fun r=>by rw[(o r).1]at b;cases b
 have g:L 6=true->False:=fun s=>f (p s).1;have t:L 7=true->False:=fun u=>g (q u).1;refine⟨by rw[pt dc];exact h.b3,by rw[pt dc];exact h.b4,fun a=>by rw[pt dc];exact h.p0 (fY a dc),fun a=>by rw[pt dc];exact h.p1 (fY a dc),fun a=>by rw[pt dc];exact h.p3 (fY a dc),h.ext.upd e _,c,bl,bs,fun _=>⟨pd,aR.here l,e⟩,fun a=>?_,fun a=>(f (fY a dc)).elim,fun a=>(g (fY a dc)).elim,fun a=>(t (fY a dc)).elim⟩
 obtain⟨v,j,w⟩:=m (fY a dc)
 exact⟨by rw[pt dc];exact v,j.upd (aR.fresh j d) _,w⟩
theorem tF.s4(h:tF T n x4 L O S)(b:L 4=false){c:Nat}(d:S c=ae)(z:Nat->AV)(l:∀i,i<n->z i=.nil):tF T n x4 (fun k=>if k=4 then true else L k) (O.put (some 20) (.sl 1 c 0 n)) (S.upd c ⟨59,1,n,z⟩):=by
 have e:=h.ext.none d;obtain⟨bm,bl,bs,m,x,o,p,q⟩:=h.ex;have f:L 5=true->False:=fun r=>by rw[(o r).2.1]at b;cases b
 have g:L 6=true->False:=fun s=>f (p s).1;have t:L 7=true->False:=fun u=>g (q u).1;refine⟨by rw[pt dc];exact h.b3,by rw[pt dc];exact h.b4,fun a=>by rw[pt dc];exact h.p0 (fY a dc),fun a=>by rw[pt dc];exact h.p1 (fY a dc),fun a=>by rw[pt dc];exact h.p3 (fY a dc),h.ext.upd e _,bm,c,bs,fun a=>?_,fun _=>⟨pd,aR.here l,e⟩,fun a=>(f (fY a dc)).elim,fun a=>(g (fY a dc)).elim,fun a=>(t (fY a dc)).elim⟩
 obtain⟨v,j,w⟩:=m (fY a dc)
 exact⟨by rw[pt dc];exact v,j.upd (aR.fresh j d) _,w⟩
theorem tF.s5(h:tF T n x4 L O S)(b:L 2=true)(c:L 4=true)(d:L 5=false):∃bm bl,O 18=.sl 2 bm 0 (n+1)/\O 20=.sl 1 bl 0 n/\tF T n x4 (fun k=>if k=5 then true else L k) (O.put (some 21) (.agg [.sl 2 bm 0 (n+1),.sl 1 bl 0 n,.nil,.nfn])) S:=by
 obtain⟨bm,bl,bs,e,f,p,i,j⟩:=h.ex;have g:L 6=true->False:=fun l=>by rw[(i l).1]at d;cases d
 have m:L 7=true->False:=fun o=>g (j o).1;refine⟨bm,bl,(e b).1,(f c).1,by rw[pt dc];exact h.b3,by rw[pt dc];exact h.b4,fun a=>by rw[pt dc];exact h.p0 (fY a dc),fun a=>by rw[pt dc];exact h.p1 (fY a dc),fun a=>by rw[pt dc];exact h.p3 (fY a dc),h.ext,bm,bl,bs,fun _=>by rw[pt dc];exact e b,fun _=>by rw[pt dc];exact f c,fun _=>⟨by simpa using b,by simpa using c,pd⟩,fun a=>(g (fY a dc)).elim,fun a=>(m (fY a dc)).elim⟩
theorem tF.s6(h:tF T n x4 L O S)(e:L 5=true)(f:L 6=false):∃bm bl,O 21=.agg [.sl 2 bm 0 (n+1),.sl 1 bl 0 n,.nil,.nfn]/\∀c,S c=ae->∀z,(∀j,j<4->z j=stV bm bl n j)->tF T n x4 (fun k=>if k=6 then true else L k) (O.put (some 22) (.ptr 1 c 0)) (S.upd c ⟨160,1,4,z⟩):=by
 obtain⟨bm,bl,bs,p,q,r,B,s⟩:=h.ex;obtain⟨g,i,b⟩:=r e;have t:L 7=true->False:=fun u=>by rw[(s u).1]at f;cases f
 refine⟨bm,bl,b,fun c d z v=>?_⟩;have l:=h.ext.none d;obtain⟨w,m,x⟩:=p g;obtain⟨y,o,A⟩:=q i;exact⟨by rw[pt dc];exact h.b3,by rw[pt dc];exact h.b4,fun a=>by rw[pt dc];exact h.p0 (fY a dc),fun a=>by rw[pt dc];exact h.p1 (fY a dc),fun a=>by rw[pt dc];exact h.p3 (fY a dc),h.ext.upd l _,bm,bl,c,fun _=>⟨by rw[pt dc];exact w,m.upd (aR.fresh m d) _,x⟩,fun _=>⟨by rw[pt dc];exact y,o.upd (aR.fresh o d) _,A⟩,fun _=>⟨by simpa using g,by simpa using i,by rw[pt dc];exact b⟩,fun _=>⟨by simpa using e,pd,aR.here v,l⟩,fun a=>(t (fY a dc)).elim⟩
theorem tF.s7(h:tF T n x4 L O S)(d:L 6=true):∃bs,O 22=.ptr 1 bs 0/\tF T n x4 (fun k=>if k=7 then true else L k) (O.put (some 6) (.ptr 1 bs 0)) S:=by
 obtain⟨bm,bl,bs,i,j,l,m,q⟩:=h.ex;obtain⟨e,a,o,p⟩:=m d;obtain⟨f,g,c⟩:=l e;exact⟨bs,a,by rw[pt dc];exact h.b3,by rw[pt dc];exact h.b4,fun b=>by rw[pt dc];exact h.p0 (fY b dc),fun b=>by rw[pt dc];exact h.p1 (fY b dc),fun b=>by rw[pt dc];exact h.p3 (fY b dc),h.ext,bm,bl,bs,fun _=>by rw[pt dc];exact i f,fun _=>by rw[pt dc];exact j g,fun _=>⟨by simpa using f,by simpa using g,by rw[pt dc];exact c⟩,fun _=>⟨by simpa using e,by rw[pt dc];exact a,o,p⟩,fun _=>⟨by simpa using d,pd⟩⟩
end
structure G4(S0 S:St)(bs bm bl:Nat)(gl:Nat->Nat)(n k:Nat)(A L:aB):Prop where
 ext:cY S0 S
 cell:aR S bs 160 1 4 (stV bm bl n)
 mino:aR S bm 50 2 (n+1) (fun c=>if c<k+1 then .big (det c A)else .big 0)
 lamo:aR S bl 59 1 n (fun i=>if i<k then .sl 2 (gl i) 0 i else .nil)
 lamr:∀i,i<k->ic S (gl i) i (L i)
 n1:∀i,i<k->gl i≠bm
 n4:∀i j,i<k->j<k->gl i=gl j->i=j
 ns:S0 bs=ae
 nm:S0 bm=ae
 nl:S0 bl=ae
 nr:∀i,i<k->S0 (gl i)=ae
theorem G4.push{bd:Nat}(h:G4 S0 V bs bm bl gl n k A L)(B:k<n)(um:V bm=some ⟨50,2,n+1,gm⟩)(ul:V bl=some ⟨59,1,n,g2⟩)(t:(V.upd bm ⟨50,2,n+1,aL gm (k+1) (.big (det (k+1) A))⟩) bd=ae)(v:∀j,j<k->z0 j=.big 0) :
  G4 S0 (((V.upd bm ⟨50,2,n+1,aL gm (k+1) (.big (det (k+1) A))⟩).upd bd ⟨50,2,k,z0⟩).upd bl ⟨59,1,n,aL g2 k (.sl 2 bd 0 k)⟩) bs bm bl (fun a=>if a=k then bd else gl a) n (k+1) A (fun a x=>if a<k then L a x else 0):=by
 have d:=(ag t).1;have b:=(ag t).2;have f:bs≠bm:=aR.ne h.cell h.mino dc
 have l:bs≠bl:=aR.ne h.cell h.lamo dc
 have w:bm≠bl:=aR.ne h.mino h.lamo dc
 have y:bs≠bd:=aR.fresh h.cell b;have z:bl≠bd:=aR.fresh h.lamo b;refine⟨((h.ext.upd h.nm _).upd (h.ext.none b) _).upd h.nl _,((h.cell.upd f _).upd y _).upd l _,?_,?_,fun i p=>?_,fun i p=>?_,fun i j p u e=>?_,h.ns,h.nm,h.nl,fun i p=>?_⟩
 ·refine aR.upd (aR.upd (aR.here fun c q=>?_) (ai d) _) w _;obtain⟨g,m,r⟩:=h.mino;rw[um]at m;cases m;simp only[aL];by_cases e:c=k+1
  ·subst e;rw[if_pos rfl,if_pos om]
  ·have o:=r c q;dsimp only at o;rw[if_neg e,o];by_cases e':c<k+1
   ·rw[if_pos e',if_pos om]
   ·rw[if_neg e',if_neg om]
 ·refine aR.here fun c q=>?_;obtain⟨g,m,r⟩:=h.lamo;rw[ul]at m;cases m;simp only[aL];by_cases e:c=k
  ·subst e;rw[if_pos rfl,if_pos om,if_pos rfl]
  ·have o:=r c q;dsimp only at o;rw[if_neg e,o,if_neg e];by_cases e':c<k
   ·rw[if_pos e',if_pos om]
   ·rw[if_neg e',if_neg om]
 ·try dsimp only
  by_cases e:i=k
  ·subst e;rw[if_pos rfl];exact(aR.here fun j u=>by dsimp only;rw[v j u,if_neg om]).upd (ai z) _
  ·rw[if_neg e];have s:=h.lamr i om;refine(((s.upd (h.n1 i om) _).upd (aR.fresh s b) _).upd (aR.ne s h.lamo dc) _).congr fun j _=>by dsimp only;rw[if_pos om]
 ·try dsimp only
  split
  ·exact d
  ·exact h.n1 i om
 ·try dsimp only at e
  by_cases f:i=k<;>by_cases l:j=k
  ·omega
  ·rw[if_pos f,if_neg l]at e;exact absurd e.symm (aR.fresh (h.lamr j om) b)
  ·rw[if_neg f,if_pos l]at e;exact absurd e (aR.fresh (h.lamr i om) b)
  ·rw[if_neg f,if_neg l]at e;exact h.n4 i j om om e
 ·try dsimp only
  split
  ·exact h.ext.none b
  ·exact h.nr i om
theorem G4.set(h:G4 S0 V bs bm bl gl n k A L)(b:i<k)(u:V (gl i)=some ⟨50,2,i,g⟩):G4 S0 (V.upd (gl i) ⟨50,2,i,aL g j (.big z)⟩) bs bm bl gl n k A (dK L i j z):=by
 refine⟨h.ext.upd (h.nr i b) _,h.cell.upd (aR.ne h.cell (aR.of u) dc) _,h.mino.upd (ai (h.n1 i b)) _,h.lamo.upd (aR.ne h.lamo (aR.of u) dc) _,fun a c=>?_,h.n1,h.n4,h.ns,h.nm,h.nl,h.nr⟩
 by_cases e:a=i
 ·subst e;obtain⟨o,d,f⟩:=h.lamr a c;rw[u]at d;cases d;refine aR.here fun x l=>?_;have:=f x l;simp only[aL,dK]
  grind
 ·refine((h.lamr a c).upd (fun m=>e (h.n4 a i c b m)) _).congr fun x _=>?_;simp[dK,e]
theorem G4.congr{L':aB}(h:G4 S0 V bs bm bl gl n k A L)(b:∀i j,i<k->j<i->L i j=L' i j):G4 S0 V bs bm bl gl n k A L' :=
 ⟨h.ext,h.cell,h.mino,h.lamo,fun i a=>(h.lamr i a).congr fun j c=>by rw[b i j a c],h.n1,h.n4,h.ns,h.nm,h.nl,h.nr⟩
theorem yq(n:Nat)(d:1<=n)(e:n<=16):Aa 205 [.int .i64 n] n n ma:=by
 refine Aa.of ?_;refine ak func205 rfl 13 ntmps205 kr sm (by simp[results205]) ?_
 rw[aF,results205];simp -dsimp only[go_sem,aa,(om:¬((n:Int)<1)),(om:¬((16:Int)<(n:Int)))]
 refine(fQ (a:=1) om om).call ?_;simp -dsimp only[go_sem,aa];refine(zA n 1 1 om (by unfold nb;decide) om _ _ (cD _ _)).mono ?_
 rintro _ S1 ⟨b,g,rfl,c⟩;simp -dsimp only[go_sem];exact⟨b,rfl,g,c.1⟩
theorem yH(S:St)(n K c:Nat)(gc:Nat->Nat)(A:aB)(h1:1<=n)(h2:n<=15)(hK:K<=1000000)(hS:∀k i j,k+i<n->k+j<n->nb (ca A k i j) K)(hd:∀k,k<=n->det k A≠0)(Z:∀k,k<n->nb (det k A) K)(hM:dd S c gc n n A) :
  cL 160 [.sl 1 c 0 n] S (fun r S'=>∃M,r=.ptr 1 M.bs 0/\kR S' M n (fun k=>det k A) (eB A) ma/\cY S S'/\∀d,mH M n d->S d=ae):=by
 refine ak func160 rfl 96 ntmps160 kr sm (by simp[results160]) ?_
 rw[aF,results160];have wn:=aM (om:n<1000000)
 simp -dsimp only[go_sem,aa];refine(zX n K A h1 om hK hS hd Z).spec (dT.one hM.vr.va) ?_;simp -dsimp only[go_sem];refine t7 (tF S n (pH n A)) kr ?_ ?_ ?_
 ·refine⟨by simp -dsimp only[go_sem],by simp -dsimp only[go_sem],(fun h=>by cases h),(fun h=>by cases h),(fun h=>by cases h),cY.refl S,0,0,0,(fun h=>by cases h),(fun h=>by cases h),(fun h=>by cases h),(fun h=>by cases h),(fun h=>by cases h)⟩
 ·refine⟨?_,?_,?_,?_,?_,?_,?_,?_,trivial⟩
  ·intro L O S l m g;refine cN rfl ?_;simp -dsimp only[go_sem,l.b3];exact l.s0
  ·intro L O S l m g;have al:∀k,_->L k=true:=ap.1 g;refine cN rfl ?_;simp -dsimp only[go_sem,l.p0 (al 0 dc),wn]
   exact l.s1
  ·intro L O S l m g;have al:∀k,_->L k=true:=ap.1 g;refine cN rfl ?_;simp -dsimp only[go_sem,l.p1 (al 1 dc)]
   repeat refine an ?_
   refine au.intro fun bw fw=>?_;exact l.s2 m fw _ (fun _ _=>rfl)
  ·intro L O S l m g;refine cN rfl ?_;simp -dsimp only[go_sem,l.b3];exact l.s3
  ·intro L O S l m g;have al:∀k,_->L k=true:=ap.1 g;refine cN rfl ?_;simp -dsimp only[go_sem,l.p3 (al 3 dc)]
   repeat refine an ?_
   refine au.intro fun bw fw=>?_;exact l.s4 m fw _ (fun _ _=>rfl)
  ·intro L O S l m g;have al:∀k,_->L k=true:=ap.1 g;refine cN rfl ?_;obtain⟨bm,bl,s,B,U⟩:=l.s5 (al 2 dc) (al 4 dc) m
   simp -dsimp only[go_sem,s,B];exact U
  ·intro L O S l m g;have al:∀k,_->L k=true:=ap.1 g;refine cN rfl ?_;obtain⟨bm,bl,s,B⟩:=l.s6 (al 5 dc) m
   simp -dsimp only[go_sem,s,List.forall_mem_cons,aG,false_implies,implies_true];refine au.intro fun bw fw=>?_;exact B _ fw _ (fun j hj=>rfl)
  ·intro L O S l m g;have al:∀k,_->L k=true:=ap.1 g;refine cN rfl ?_;obtain⟨bs,s,B⟩:=l.s7 (al 6 dc)
   simp -dsimp only[go_sem,s];exact B
 intro L O S1 l m;obtain⟨bm,bl,bs,m2,m4,m5,m6,m7⟩:=l.ex;obtain⟨_,W,c3⟩:=m2 (m 2 dc)
 obtain⟨_,X,d3⟩:=m4 (m 4 dc)
 obtain⟨_,_,C,e3⟩:=m6 (m 6 dc)
 have e6:=(m7 (m 7 dc)).2
 have t:=l.b3;have w:=l.b4;have hE:=l.ext;clear l m m2 m4 m5 m6 m7;have s:bs≠bm:=aR.ne C W dc
 have B:bs≠bl:=aR.ne C X dc
 have U:bm≠bl:=aR.ne W X dc
 obtain⟨gs,us,vs⟩:=id C;obtain⟨gm,um,vm⟩:=id W;have z0:gs 0=.sl 2 bm 0 (n+1):=vs 0 om;simp -dsimp only[go_sem];refine aP 6 kr ?_
 simp -dsimp only[go_sem,aa,t,e6,us,z0,um];refine⟨_,(fQ (a:=1) om om).pure',?_⟩;simp -dsimp only[go_sem]
 repeat refine an ?_
 have f:G4 S (S1.upd bm ⟨50,2,n+1,aL gm 0 (.big 1)⟩) bs bm bl (fun _=>0) n 0 A (eB A) :=
  ⟨hE.upd c3 _,C.upd s _,aR.here fun x H=>by
   simp only[aL];by_cases e:x=0
   ·subst e;rw[if_pos rfl,if_pos om];rfl
   ·rw[if_neg e,if_neg om];exact vm x H,(X.upd (ai U) _).congr fun i _=>by rw[if_neg om],fun i Y=>om,fun i Y=>om,fun i j Y=>om,e3,c3,d3,fun i Y=>om⟩
 refine cg (fun O V=>∃(i:Nat) (gl:Nat->Nat),i<=n/\O 3=.int .i64 n/\O 4=pH n A/\O 6=.ptr 1 bs 0/\O 29=.int .i64 n/\O 30=.int .i64 i/\G4 S V bs bm bl gl n i A (eB A)) (fun O V=>n-bT (O 30)) ?_ ?_
 ·simp -dsimp only[go_sem,t,w,e6];exact⟨0,om,rfl,_,f⟩
 clear f us um vs vm z0 t w e6 W X C c3 d3 e3 hE;clear gs gm;rintro Q' I O V ⟨i,gl,Y,t,w,y,o,p,f⟩;obtain⟨gs,us,vs⟩:=id f.cell;obtain⟨gm,um,vm⟩:=id f.mino;obtain⟨g2,ul,vl⟩:=id f.lamo;have z0:gs 0=.sl 2 bm 0 (n+1):=vs 0 om;have G:gs 1=.sl 1 bl 0 n:=vs 1 om;by_cases q:i<n
 ·have wi:=aM (om:i<1000000)
  simp -dsimp only[go_sem,o,p,q];refine aP 15 kr ?_
  simp -dsimp only[go_sem,aa,w,y,q,us,z0,um,wi,pH,aV,bA,(om:i+1<n+1)]
  repeat refine an ?_
  rw[cA];refine ej 6 [[0,1,2,3,4],[]] kr ?_
  simp -dsimp only[go_sem,aa,y,us,G,s]
  repeat refine an ?_
  refine au.intro fun bd fd=>?_;have hdb:=(ag fd).1;have D:=(ag fd).2;have n1:=aR.fresh f.cell D;have n2:=aR.fresh f.lamo D;simp -dsimp only[go_sem,q,us,G,ul,s,n1,n2,ai U];have J:=f.push q um ul fd (z0:=fun _=>.big 0) (fun _ _=>rfl);refine cg (fun O V=>∃(j:Nat),j<=i/\O 3=.int .i64 n/\O 4=pH n A/\O 6=.ptr 1 bs 0/\O 7=.int .i64 i/\O 29=.int .i64 n/\O 30=.int .i64 i/\O 56=.int .i64 i/\O 57=.int .i64 j/\G4 S V bs bm bl (fun a=>if a=i then bd else gl a) n (i+1) A (fun a x=>if a<i∨x<j then eB A a x else 0)) (fun O V=>i-bT (O 57)) ?_ ?_
  ·simp -dsimp only[go_sem,t,w,y,o,p];exact⟨0,om,rfl,J.congr fun a x _ _=>by simp⟩
  clear J f us um ul vs vm vl z0 G t w y o p fd hdb D n1 n2 I;clear O V gs gm g2;generalize hgl:(fun a=>if a=i then bd else gl a)=gl' at *
  rintro Q2 hQ2 O V ⟨j,hj,t,w,y,y7,o,p,E,F,f⟩;by_cases z:j<i
  ·obtain⟨gs,us,vs⟩:=id f.cell;obtain⟨g2,ul,vl⟩:=id f.lamo;obtain⟨gr,ur,vr⟩:=id (f.lamr i om);have G:gs 1=.sl 1 bl 0 n:=vs 1 om;have zl:g2 i=.sl 2 (gl' i) 0 i:=by have:=vl i q;rw[this];exact if_pos om
   have wij:IntKind.i64.wrap ((i:Int)-j)=((i-j:Nat):Int):=by rw[rW (Nat.le_of_lt z)];exact i64_in om om
   simp -dsimp only[go_sem,E,F,z];refine aP 20 kr ?_
   simp -dsimp only[go_sem,aa,t,w,y,y7,o,p,E,F,z,q,us,G,ul,zl,ur,wij,pH,aV,bA,(om:j<n),(om:i-j<n-j),aM (om:j<1000000),bT]
   repeat refine an ?_
   refine⟨⟨j+1,om,rfl,(f.set (om:i<i+1) ur).congr fun a x _ _=>?_⟩,om⟩
   simp only[dK];by_cases e:a=i/\x=j
   ·obtain⟨rfl,rfl⟩:=e;rw[if_pos ⟨rfl,rfl⟩,if_pos om];rfl
   ·rw[if_neg e];by_cases C:a<i∨x<j
    ·rw[if_pos C,if_pos om]
    ·rw[if_neg C,if_neg om]
  ·have N:j=i:=om
   subst N;simp -dsimp only[go_sem,E,F,z];rw[hQ2];simp -dsimp only[go_sem,t,w,y,o,p,wi,bT];exact⟨⟨j+1,om,rfl,rfl,gl',f.congr fun a x _ _=>by rw[if_pos om]⟩,om⟩
 have P:i=n:=om
 subst P;simp -dsimp only[go_sem,o,p,q];rw[I];simp -dsimp only[go_sem,aa,t,y];refine(yq i h1 om _ _ (cD _ _)).mono ?_;rintro _ V2 ⟨bb,gb,rfl,hI⟩;obtain⟨hIm,u,Q,v⟩:=hI;have hE2:=f.ext.trans u;have us2:=u _ _ us;simp -dsimp only[go_sem,aa,t,y,us2];have hc3:aR (((V2.upd bs ⟨160,1,4,aL gs 2 (.sl 1 bb 0 i)⟩).upd bs ⟨160,1,4,aL (aL gs 2 (.sl 1 bb 0 i)) 3 (.mfn 206 [.ptr 1 bs 0])⟩)) bs 160 1 4 (fun j=>[AV.sl 2 bm 0 (i+1),.sl 1 bl 0 i,.sl 1 bb 0 i,.mfn 206 [.ptr 1 bs 0]].getD j .any):=aR.here fun j hj=>by
  match j,hj with
  | 0,_=>simp[aL,z0]
  | 1,_=>simp[aL,G]
  | 2,_=>simp[aL]
  | 3,_=>simp[aL]
 have R:∀a,a<i->gl a≠bs:=fun a g=>aR.ne (f.lamr a g) f.cell dc
 have T:bs≠bb:=aR.fresh f.cell Q;refine⟨⟨bs,bm,bl,bb,gl,gb⟩,rfl,⟨hc3,?_,?_,fun a g=>((u.has (f.lamr a g)).upd (R a g) _).upd (R a g) _,(hIm.upd (ai T) (fun a g=>ai (aR.fresh f.cell (v a g))) _).upd (ai T) (fun a g=>ai (aR.fresh f.cell (v a g))) _,f.n1,fun a g=>ai (aR.fresh f.mino (v a g)),fun a b g hb=>aR.fresh (f.lamr a g) (v b hb),f.n4⟩,(hE2.upd f.ns _).upd f.ns _,?_⟩
 ·refine(((u.has f.mino).upd (ai s) _).upd (ai s) _).congr fun x H=>?_;dsimp only;rw[if_pos H]
 ·refine(((u.has f.lamo).upd (ai B) _).upd (ai B) _).congr fun x H=>?_;dsimp only;rw[if_pos H]
 ·rintro d (e|e|e|e|⟨a,g,e|e⟩)
  ·rw[e];exact f.ns
  ·rw[e];exact f.nm
  ·rw[e];exact f.nl
  ·rw[e];exact f.ext.none Q
  ·rw[e];exact f.nr a g
  ·rw[e];exact f.ext.none (v a g)

structure oH(S:St)(b e n:Nat)(ρ:Nat->Nat)(B:aB):Prop where
 outer:aR S b 59 1 n (fun a=>.sl 2 e (ρ a*n) n)
 inner:∃g,S e=some ⟨50,2,n*n,g⟩/\∀a c,a<n->c<n->g (ρ a*n+c)=.big (B a c)
 rg:∀a,a<n->ρ a<n
 inj:∀a c,a<n->c<n->ρ a=ρ c->a=c
theorem ko.perm(h:ko S b e n n A):oH S b e n id A:=⟨h.outer,h.inner,fun _ h=>h,fun _ _ _ _ h=>h⟩
theorem oH.set(h:oH S b e n ρ B){i c:Nat}{z:Int}{g:Nat->AV}(l:i<n)(m:c<n)(u:S e=some ⟨50,2,n*n,g⟩):oH (S.upd e ⟨50,2,n*n,aL g (ρ i*n+c) (.big z)⟩) b e n ρ (dK B i c z):=by
 refine⟨h.outer.upd (aR.ne h.outer (aR.of u) dc) _,⟨_,bR,fun a x f j=>?_⟩,h.rg,h.inj⟩
 obtain⟨r,k,o⟩:=h.inner;rw[u]at k;cases k;simp only[aL,dK];by_cases d:a=i/\x=c
 ·obtain⟨rfl,rfl⟩:=d;rw[if_pos rfl,if_pos ⟨rfl,rfl⟩]
 ·rw[if_neg d,if_neg ?_]
  ·exact o a x f j
  ·intro p;have q:=sJ (i:=ρ a) j;have s:=sJ (i:=ρ i) m;rw[p]at q;exact d ⟨h.inj a i f l om,om⟩
theorem oH.swap(h:oH S b e n ρ B){k p:Nat}{o:Nat->AV}(v:k<n)(w:p<n)(u:S b=some ⟨59,1,n,o⟩):oH (S.upd b ⟨59,1,n,aL (aL o k (.sl 2 e (ρ p*n) n)) p (.sl 2 e (ρ k*n) n)⟩) b e n (fun a=>ρ (cV k p a)) (fun a c=>B (cV k p a) c):=by
 have j:∀a,a<n->cV k p a<n:=fun a d=>by unfold cV;split<;>(try split)<;>omega
 obtain⟨g,q,s⟩:=h.inner;have l:e≠b:=ai (aR.ne h.outer (aR.of q) dc)
 refine⟨aR.here fun a d=>?_,⟨g,by rw[aH l];exact q,fun a c d m=>s _ c (j a d) m⟩,fun a d=>h.rg _ (j a d),fun a c d m e=>?_⟩
 ·obtain⟨x,r,t⟩:=h.outer;rw[u]at r;cases r;simp only[aL,cV];by_cases i:a=p
  ·rw[if_pos i];by_cases f:a=k
   ·rw[if_pos f];congr 2;rw[<-i,<-f]
   ·rw[if_neg f,if_pos i]
  ·rw[if_neg i];by_cases f:a=k
   ·rw[if_pos f,if_pos f]
   ·rw[if_neg f,if_neg f,if_neg i];exact t a d
 ·have:=h.inj _ _ (j a d) (j c m) e;unfold cV at this
  grind
theorem oH.upd(h:oH S b e n ρ B){c:Nat}(a:b≠c)(d:e≠c)(X:dH):oH (S.upd c X) b e n ρ B:=by
 obtain⟨g,f,i⟩:=h.inner;exact⟨h.outer.upd a _,⟨g,by rw[aH d];exact f,i⟩,h.rg,h.inj⟩
def RkP(S:St)(n k p:Nat)(A:aB)(b e b8:Nat):Prop:=∃(σ ρ:Nat->Nat) (neg:Bool) (B:aB),l9 A n σ neg k/\oH S b e n ρ B/\cE S b8 50 2 (.big (det k (fun a b=>A (σ a) b)))/\(∀i j,k<=i->i<n->k<=j->j<n->B i j=ca (fun a b=>A (σ a) b) k (i-k) (j-k))/\∀i,k<=i->i<p->B i k=0
theorem Ja(n:Nat)(A:aB)(i j:Nat)(a:i<n)(b:j<n):PF 250 [.int .i64 i,.int .i64 j,.pat 1 (aV n n A)] (.big (A i j)):=by
 refine PF.of_spec (ak func250 rfl 13 ntmps250 kr sm (by simp[results250]) ?_)
 rw[aF,results250];simp -dsimp only[go_sem];refine au.intro fun bc fc=>?_
 try simp -dsimp only[go_sem,aV,bA,a,b]
 exact VR.mf rfl
theorem B9{K:AV->Prop}(c:k<=n)(d:0<k)(h:∀x,(k=n->∃g,x=.lst 1 0 g)->(k<n->x=.sl 1 b k (n-k))->K x):kQ 52 (.sl 1 b 0 n) (some (.int .i64 (k:Int))) ae ae K:=by
 refine⟨rfl,k,n,rfl,rfl,trivial,c,af _,?_⟩;show K (if k=0∨k<n then AV.sl 1 b (0+k) (n-k)else AV.lst 1 0 fun _=>AV.any)
 by_cases e:k<n
 ·rw[if_pos (aK e),aJ];exact h _ (fun a=>om) (fun _=>rfl)
 ·rw[if_neg om];exact h _ (fun _=>⟨_,rfl⟩) (fun a=>absurd a e)
theorem Lf(n K:Nat)(A:aB)(h1:1<=n)(h2:n<=16)(hK1:1<=K)(hK:K<=1000000)(hd:det n A≠0)(hB:∀σ neg k,l9 A n σ neg k->∀k' i j,k'+i<n->k'+j<n->nb (ca (fun a b=>A (σ a) b) k' i j) K):PF 211 [aV n n A] (.tup [.int .i64 n,.bool true]):=by
 refine PF.of_spec (ak func211 rfl 112 ntmps211 kr sm (by simp[results211]) ?_)
 rw[aF,results211];simp -dsimp only[go_sem,aa,aV,bA];refine au.intro fun b1 f1=>?_;simp -dsimp only[go_sem];refine(kA n n A h1 h2 h1 h2).call ?_;simp -dsimp only[go_sem,aa];refine(wG n n 250 [.pat 1 (aV n n A)] A om h1 h2 h1 h2 (fun i j D I=>Ja n A i j D I) _ _ (dT.fn1 (dT.one (VA.ptr (cE.new rfl) (VA.refl _ _))))).mono ?_;rintro _ S1 ⟨b,e,rfl,hF0,hE0,hn0,hm0⟩;simp -dsimp only[go_sem,aa];refine(fQ (a:=1) om om).call ?_;simp -dsimp only[go_sem];refine au.intro fun L f8=>?_;have X:=hF0.perm;have Y:b≠L:=aR.fresh X.outer f8;have Z:e≠L:=fun h=>by obtain⟨g,h1,_⟩:=X.inner;rw[h,f8]at h1;cases h1
 simp -dsimp only[go_sem,aa];refine cg (fun O S=>∃k:Nat,k<=n/\O 4=.int .i64 n/\O 5=.int .i64 n/\O 7=.sl 1 b 0 n/\O 8=.ptr 2 L 0/\O 9=.int .i64 k/\O 29=.int .i64 n/\O 30=.int .i64 k/\RkP S n k k A b e L) (fun O S=>n-bT (O 30)) ?_ ?_
 ·simp -dsimp only[go_sem];exact⟨0,om,rfl,rfl,id,id,false,A,l9.init A n,(X.upd Y Z _).upd Y Z _,cE.set,fun i j _ _ _ _=>by rw[eS];rfl,fun i D hi2=>om⟩
 clear hF0 hE0 hn0 hm0 X f8;rintro Q' hQ' O S ⟨k,hkn,E,z,C,F,u,d,f,hR⟩;by_cases m:k<n
 ·simp -dsimp only[go_sem,u,d,f,m];refine cg (fun O S=>∃p:Nat,k<=p/\p<=n/\O 4=.int .i64 n/\O 5=.int .i64 n/\O 7=.sl 1 b 0 n/\O 8=.ptr 2 L 0/\O 9=.int .i64 k/\O 10=.int .i64 k/\O 11=.int .i64 p/\O 29=.int .i64 n/\O 30=.int .i64 k/\RkP S n k p A b e L) (fun O S=>n-bT (O 11)) ?_ ?_
  ·simp -dsimp only[go_sem,E,z,C,F,u,d,f];exact⟨k,om,om,rfl,hR⟩
  clear E z C F u d f hR;clear O S;rintro Q2 hQ2 O S ⟨p,hkp,hpn,E,z,C,F,u,l,M,d,f,σ,ρ,neg,B,J,G,N,P,hZ⟩;have hp:p<n:=by
   refine Nat.lt_of_le_of_ne hpn fun ep=>hd (J.zero m fun i D=>?_);have:=P (k+i) k om om (af _) m;rw[bH,(om:k+i-k=i)]at this
   rw[<-this];exact hZ _ om om
  obtain⟨g1,u1,v1⟩:=id G.outer;obtain⟨g2,u2,v2⟩:=id G.inner;have xp:g1 p=.sl 2 e (ρ p*n) n:=v1 p hp;have xk:g1 k=.sl 2 e (ρ k*n) n:=v1 k m;have xpk:g2 (ρ p*n+k)=.big (B p k):=v2 p k hp m;have hfl:ρ p*n+n<=n*n:=by
   have:=ay n (show ρ p+1<=n from G.rg p hp)
   rwa [ck]at this
  have Q:=P p k hkp hp (af _) m;rw[bH]at Q;have hbp:=hB σ neg k J k (p-k) 0 om om;rw[<-Q]at hbp;simp -dsimp only[go_sem,aa,E,C,l,M,m,hp,u1,xp,u2,xpk,(om:ρ p*n+k<n*n)]
  refine(jp hbp om).call ?_;by_cases h0:B p k=0
  ·simp -dsimp only[go_sem,E,z,C,F,u,l,M,d,f,h0,Int.sign_zero,aM (om:p<1000000),bT]
   refine⟨⟨p+1,om,om,rfl,σ,ρ,neg,B,J,G,N,P,fun i hi1 hi2=>?_⟩,om⟩
   by_cases e2:i=p
   ·rw[e2];exact h0
   ·exact hZ i hi1 om
  have hs0:((B p k).sign==0)=false:=by
   simp only[beq_eq_false_iff_ne,ne_eq];rw[iZ];exact h0
  simp -dsimp only[go_sem,E,z,C,F,u,l,M,d,f,hs0];have hex:∃σ' neg',l9 A n σ' neg' k/\det k (fun a b=>A (σ' a) b)=det k (fun a b=>A (σ a) b)/\∀i j,ca (fun a b=>A (σ' a) b) k i j=ca (fun a b=>A (σ a) b) k (cV 0 (p-k) i) j:=by
   by_cases epk:p=k
   ·subst epk;exact⟨σ,neg,J,rfl,fun i j=>by rw[bH];congr 1;unfold cV;split<;>(try split)<;>omega⟩
   ·exact⟨fun a=>σ (cV k p a),!neg,J.swap om hp,sh (n:=k) (fun a c=>A (σ a) c) (i:=k) (k:=p) om om,fun i j=>sf (k:=k) (p:=p) (fun a c=>A (σ a) c) om i j⟩
  obtain⟨σ',neg',s,hdet,hstg⟩:=hex;have hsw:∀i,i<n->cV k p i<n:=fun i D=>by unfold cV;split<;>(try split)<;>omega
  have R:∀i,k<=i->k<=cV k p i/\cV k p i-k=cV 0 (p-k) (i-k):=fun i D=>by unfold cV;split<;>split<;>(try split)<;>(try split)<;>omega
  have hP':=G.swap m hp u1;have T:∀i j,k<=i->i<n->k<=j->j<n->B (cV k p i) j=ca (fun a b=>A (σ' a) b) k (i-k) (j-k):=fun i j D o I q=>by
   rw[P _ j (R i D).1 (hsw i o) I q,hstg,(R i D).2]
  have h0':ca (fun a b=>A (σ' a) b) k 0 0≠0:=by
   have:=T k k (af _) m (af _) m;rw[bH]at this;rw[<-this,show cV k p k=p by unfold cV;rw[if_pos rfl]]
   exact h0
  have hV':=N.upd (ai Y) (⟨59,1,n,aL (aL g1 k (.sl 2 e (ρ p*n) n)) p (.sl 2 e (ρ k*n) n)⟩);rw[<-hdet]at hV';have w2:=aM (om:k<1000000)
  have yk:aL (aL g1 k (.sl 2 e (ρ p*n) n)) p (.sl 2 e (ρ k*n) n) k=.sl 2 e (ρ p*n) n:=by
   simp only[aL];by_cases epk:k=p
   ·rw[if_pos epk,epk]
   ·rw[if_neg epk,if_pos trivial]
  refine eR 12 kr ?_
  simp -dsimp only[go_sem,aa,C,u,M,m,hp,u1,xp,xk,w2,yk,Option.map_some,Option.map_none];refine B9 om om ?_;intro x hx1 hx2;generalize hBB:(fun a c=>B (cV k p a) c)=B' at hP';generalize hrr:(fun a=>ρ (cV k p a))=ρ' at hP';have U:ρ' k=ρ p:=by rw[<-hrr];show ρ (cV k p k)=ρ p;congr 1;unfold cV;rw[if_pos rfl]
  have hBs2:∀i j,k<=i->i<n->k<=j->j<n->B' i j=ca (fun a b=>A (σ' a) b) k (i-k) (j-k):=fun i j D o I q=>by rw[<-hBB];exact T i j D o I q
  rw[<-U]at yk;rw[kE];generalize S.upd b ⟨59,1,n,aL (aL g1 k (.sl 2 e (ρ p*n) n)) p (.sl 2 e (ρ k*n) n)⟩=S3 at *;apply qT (fun O V=>∃x,(k+1<n->x=.sl 1 b (k+1) (n-(k+1)))/\O 4=.int .i64 n/\O 5=.int .i64 n/\O 7=.sl 1 b 0 n/\O 8=.ptr 2 L 0/\O 9=.int .i64 k/\O 10=.int .i64 k/\O 12=.sl 2 e (ρ' k*n) n/\O 29=.int .i64 n/\O 30=.int .i64 k/\O 69=x/\O 70=.int .i64 ((n-(k+1):Nat):Int)/\O 71=.int .i64 0/\V=S3)
  ·intro key;have x12:AV.sl 2 e (ρ p*n) n=.sl 2 e (ρ' k*n) n:=by rw[U]
   rcases (om:k+1=n∨k+1<n)with ek|ek
   ·obtain⟨gx,rfl⟩:=hx1 ek;simp -dsimp only[go_sem];refine key _ _ ⟨.lst 1 0 gx,fun h=>om,?_⟩
    simp -dsimp only[go_sem,E,z,C,F,u,l,d,f,U,(om:n-(k+1)=0)]
   ·obtain rfl:=hx2 ek;simp -dsimp only[go_sem];refine key _ _ ⟨.sl 1 b (k+1) (n-(k+1)),fun _=>rfl,?_⟩;simp -dsimp only[go_sem,E,z,C,F,u,l,d,f,U]
  clear E z C F u l M d f hx1 hx2 u1 v1 u2 v2 xp xk xpk hfl Q hbp hs0 G N P hZ hsw R T yk h0 hstg hdet U hBB hrr J;clear O x;rintro O V ⟨x,hx,E,z,C,F,u,l,H,d,f,v,w,y,rfl⟩;refine cg (fun O V=>∃(r:Nat) (B2:aB),r<=n-(k+1)/\O 4=.int .i64 n/\O 5=.int .i64 n/\O 7=.sl 1 b 0 n/\O 8=.ptr 2 L 0/\O 9=.int .i64 k/\O 10=.int .i64 k/\O 12=.sl 2 e (ρ' k*n) n/\O 29=.int .i64 n/\O 30=.int .i64 k/\O 69=x/\O 70=.int .i64 ((n-(k+1):Nat):Int)/\O 71=.int .i64 r/\oH V b e n ρ' B2/\cE V L 50 2 (.big (det k (fun a b=>A (σ' a) b)))/\(∀i j,k<=i->i<n->k<=j->j<n->B2 i j=if k<i/\k<j/\(i<k+1+r)then ca (fun a b=>A (σ' a) b) (k+1) (i-k-1) (j-k-1)else ca (fun a b=>A (σ' a) b) k (i-k) (j-k))) (fun O V=>n-(k+1)-bT (O 71)) ?_ ?_
  ·refine⟨0,B',om,E,z,C,F,u,l,H,d,f,v,w,y,hP',hV',fun i j D o I q=>?_⟩
   rw[hBs2 i j D o I q,if_neg om]
  clear E z C F u l H d f v w y hP' hV' hBs2;clear O B';rintro Q3 hQ3 O V ⟨r,B2,hr,E,z,C,F,u,l,H,d,f,v,w,y,G,N,t⟩;by_cases hrn:r<n-(k+1)
  ·have hxx:=hx om;subst hxx;obtain⟨g1,u1,v1⟩:=id G.outer;have x1:g1 (k+1+r)=.sl 2 e (ρ' (k+1+r)*n) n:=v1 (k+1+r) om;simp -dsimp only[go_sem,aa,l,v,w,y,hrn,u1,x1,w2,(om:k+1+r<n)]
   refine cg (fun O V=>∃(c:Nat) (B2:aB),k+1<=c/\c<=n/\O 4=.int .i64 n/\O 5=.int .i64 n/\O 7=.sl 1 b 0 n/\O 8=.ptr 2 L 0/\O 9=.int .i64 k/\O 10=.int .i64 k/\O 12=.sl 2 e (ρ' k*n) n/\O 29=.int .i64 n/\O 30=.int .i64 k/\O 69=.sl 1 b (k+1) (n-(k+1))/\O 70=.int .i64 ((n-(k+1):Nat):Int)/\O 71=.int .i64 r/\O 14=.sl 2 e (ρ' (k+1+r)*n) n/\O 15=.int .i64 c/\oH V b e n ρ' B2/\cE V L 50 2 (.big (det k (fun a b=>A (σ' a) b)))/\(∀i j,k<=i->i<n->k<=j->j<n->B2 i j=if k<i/\k<j/\(i<k+1+r∨i=k+1+r/\j<c)then ca (fun a b=>A (σ' a) b) (k+1) (i-k-1) (j-k-1)else ca (fun a b=>A (σ' a) b) k (i-k) (j-k))) (fun O V=>n-bT (O 15)) ?_ ?_
   ·simp -dsimp only[go_sem,E,z,C,F,u,l,H,d,f,v,w,y];refine⟨k+1,om,om,rfl,B2,G,N,fun i j D o I q=>?_⟩
    rw[t i j D o I q];by_cases W:k<i/\k<j/\i<k+1+r
    ·rw[if_pos W,if_pos om]
    ·rw[if_neg W,if_neg om]
   clear E z C F u l H d f v w y G N t u1 v1 x1;clear O V B2 g1;rintro Q4 hQ4 O V ⟨c,B2,hkc,hcn,E,z,C,F,u,l,H,d,f,v,w,y,e14,e15,G,N,t⟩;by_cases W:c<n
   ·obtain⟨g2,u2,v2⟩:=id G.inner;obtain⟨g8,u8,y8⟩:=id N;have f1:ρ' k*n+n<=n*n:=by
     have:=ay n (show ρ' k+1<=n from G.rg k m)
     rwa [ck]at this
    have f2:ρ' (k+1+r)*n+n<=n*n:=by
     have:=ay n (show ρ' (k+1+r)+1<=n from G.rg _ om)
     rwa [ck]at this
    have y1:g2 (ρ' k*n+k)=.big (B2 k k):=v2 k k m m;have y2:g2 (ρ' (k+1+r)*n+k)=.big (B2 (k+1+r) k):=v2 _ k om m;have y3:g2 (ρ' k*n+c)=.big (B2 k c):=v2 k c m W;have y4:g2 (ρ' (k+1+r)*n+c)=.big (B2 (k+1+r) c):=v2 _ c om W;have c1:=t k k (af _) m (af _) m;have c2:=t (k+1+r) k om om (af _) m;have c3:=t k c (af _) m om W;have c4:=t (k+1+r) c om om om W;rw[if_neg om]at c1 c2 c3 c4;rw[bH]at c1 c2 c3;have m1:=hB σ' neg' k s k 0 0 om om;have m2:=hB σ' neg' k s k (k+1+r-k) 0 om om;have m3:=hB σ' neg' k s k 0 (c-k) om om;have m4:=hB σ' neg' k s k (k+1+r-k) (c-k) om om;have m5:nb (det k (fun a b=>A (σ' a) b)) K:=by
     by_cases e:k=0
     ·rw[e];simp only[det];exact nb.one om
     ·have:=hB σ' neg' k s (k-1) 0 0 om om;rw[cA,(om:k-1+1=k)]at this
      exact this
    have hd0:=s.lead k (af _);have hst:=ix s.lead (k+1+r-k-1) (c-k-1);rw[(om:k+1+r-k-1+1=k+1+r-k),(om:c-k-1+1=c-k)]at hst
    rw[<-c1,<-c2,<-c3,<-c4]at hst;rw[<-c1]at m1;rw[<-c2]at m2;rw[<-c3]at m3;rw[<-c4]at m4;have hq:(B2 k k*B2 (k+1+r) c-B2 (k+1+r) k*B2 k c)/det k (fun a b=>A (σ' a) b)=ca (fun a b=>A (σ' a) b) (k+1) (k+1+r-k-1) (c-k-1):=by
     rw[hst,cc _ hd0]
    simp -dsimp only[go_sem,aa,z,e15,W];refine aP 20 kr ?_
    simp -dsimp only[go_sem,aa,E,z,C,F,u,l,H,d,f,v,w,y,e14,e15,W,u2,y1,y2,y3,y4,u8,y8,m,(om:ρ' k*n+k<n*n),(om:ρ' k*n+c<n*n),(om:ρ' (k+1+r)*n+k<n*n),(om:ρ' (k+1+r)*n+c<n*n)]
    refine⟨_,(CP _ _ _ _ _ K m1 m2 m3 m4 m5 om hd0).pure',?_⟩;rw[hq];simp -dsimp only[go_sem,aM (om:c<1000000),bT]
    refine⟨⟨c+1,om,om,rfl,_,G.set (om:k+1+r<n) W u2,N.upd (ai Z) _,fun i j D o I q=>?_⟩,om⟩
    simp only[dK];by_cases e1:i=k+1+r/\j=c
    ·obtain⟨rfl,rfl⟩:=e1;rw[if_pos ⟨rfl,rfl⟩,if_pos om]
    ·rw[if_neg e1,t i j D o I q];by_cases e2:k<i/\k<j/\(i<k+1+r∨i=k+1+r/\j<c)
     ·rw[if_pos e2,if_pos om]
     ·rw[if_neg e2,if_neg om]
   ·have hcn':n=c:=om
    simp -dsimp only[go_sem,aa,z,e15,W];rw[hQ4];simp -dsimp only[go_sem,E,z,C,F,u,l,H,d,f,v,w,y,aM (om:r<1000000),bT]
    refine⟨⟨r+1,om,rfl,B2,G,N,fun i j D o I q=>?_⟩,om⟩
    rw[t i j D o I q];by_cases e2:k<i/\k<j/\(i<k+1+r∨i=k+1+r/\j<c)
    ·rw[if_pos e2,if_pos om]
    ·rw[if_neg e2,if_neg om]
  ·have hre:r=n-(k+1):=om
   obtain⟨g2,u2,v2⟩:=id G.inner;obtain⟨g8,u8,y8⟩:=id N;have f1:ρ' k*n+n<=n*n:=by
    have:=ay n (show ρ' k+1<=n from G.rg k m)
    rwa [ck]at this
   have y1:g2 (ρ' k*n+k)=.big (B2 k k):=v2 k k m m;have c1:=t k k (af _) m (af _) m;rw[if_neg om,bH]at c1;simp -dsimp only[go_sem,aa,l,v,w,y,hrn];rw[hQ3];simp -dsimp only[go_sem,aa,F,u,l,H,u2,y1,u8,m,w2,(om:ρ' k*n+k<n*n)]
   rw[hQ2];simp -dsimp only[go_sem,E,z,C,F,d,f,w2,bT];refine⟨⟨k+1,om,rfl,rfl,σ',ρ',neg',B2,s.step h0',G.upd Y Z _,?_,fun i j D o I q=>?_,fun i h1 h2=>om⟩,om⟩
   ·rw[<-cA,<-c1];exact cE.set
   ·rw[t i j om o om q,if_pos om,oI,oI]
 ·simp -dsimp only[go_sem,u,d,f,m];rw[hQ'];simp -dsimp only[go_sem,u];have hkn':k=n:=om
  subst hkn';exact VR.mf rfl

theorem yy(n K:Nat)(A:aB)(v:1<=n)(w:n<=16)(z:K<=1000000)(p:Pd A n)(q:∀k i j,k+i<n->k+j<n->nb (ca A k i j) K)(r:∀k,k<n->nb (det k A) K):PF 241 [aV n n A] (.bool true):=by
 have x:∀i j,i<n->j<n->nb (A i j) K:=fun i j y B=>by have:=q 0 i j om om;rwa [eS]at this
 refine PF.of_spec (ak func241 rfl 64 ntmps241 kr sm (by simp[results241]) ?_)
 rw[aF,results241];simp -dsimp only[go_sem,aa];refine(si n A v w).call ?_;simp -dsimp only[go_sem];refine cg (fun O S=>∃i:Nat,i<=n/\O 0=aV n n A/\O 17=.int .i64 n/\O 18=.int .i64 i) (fun O S=>n-bT (O 18)) ?_ ?_
 ·simp -dsimp only[go_sem];exact⟨0,om,rfl⟩
 rintro Q' s O S ⟨i,y,m,b,c⟩;by_cases a:i<n
 ·simp -dsimp only[go_sem,b,c,a];refine cg (fun O S=>∃j:Nat,j<=i/\O 0=aV n n A/\O 5=.int .i64 i/\O 17=.int .i64 n/\O 18=.int .i64 i/\O 21=.int .i64 i/\O 22=.int .i64 j) (fun O S=>i-bT (O 22)) ?_ ?_
  ·simp -dsimp only[go_sem,m,b,c];exact⟨0,om,rfl⟩
  clear m b c;rintro Q2 t O S ⟨j,B,m,C,b,c,e,f⟩;by_cases o:j<i
  ·have d:j<n:=om
   simp -dsimp only[go_sem,e,f,o,aV,bA];refine aP 16 kr ?_
   simp -dsimp only[go_sem,aa,m,C,b,c,e,f,a,d,aV,bA];refine⟨_,(pZ (x i j a d) (x j i d a) om).pure',?_⟩;rw[p.sym j i d a,tW];simp -dsimp only[go_sem,bne_self_eq_false,aM (om:j<1000000),bT]
   exact⟨⟨j+1,om,rfl⟩,om⟩
  ·simp -dsimp only[go_sem,e,f,o];rw[t];simp -dsimp only[go_sem,m,b,c,aM (om:i<1000000),bT]
   exact⟨⟨i+1,om,rfl⟩,om⟩
 ·simp -dsimp only[go_sem,b,c,a];rw[s];simp -dsimp only[go_sem,aa,m];refine(zX n K A v w z q (fun k D=>p.ne (af n) k D) r).call ?_;simp -dsimp only[go_sem,pH];refine aI (fun O S=>∃i:Nat,i<=n/\O 50=pH n A/\O 51=.int .i64 n/\O 52=.int .i64 i) (fun O S=>n-bT (O 52)) ?_ ?_
  ·simp -dsimp only[go_sem,pH];exact⟨0,om,rfl⟩
  rintro O S ⟨i,y,g,h,l⟩;by_cases a:i<n
  ·have E:0<n-i:=om
   simp -dsimp only[go_sem,aa,g,h,l,a,pH,aV,bA]
   repeat refine an ?_
   refine(jp (q i 0 0 om om) om).call ?_;have u:(ca A i 0 0).sign=1:=by
    rw[cA];exact Int.sign_eq_one_of_pos (p.pos (i+1) om)
   rw[u];simp -dsimp only[go_sem,g,h,l,(om:¬((1:Int)<=0)),aM (om:i<1000000),bT]
   exact⟨⟨i+1,om,rfl,rfl⟩,om⟩
  ·simp -dsimp only[go_sem,aa,g,h,l,a];exact VR.mf rfl
theorem qr(n K:Nat)(A:aB)(l:1<=n)(x:n<=8)(t:K<=1000000)(q:Pd A n)(r:∀k i j,k+i<n->k+j<n->nb (ca A k i j) K)(m:∀k,k<n->nb (det k A) K):PF 203 [aV n n A] (.int .i64 0):=by
 have s:∀i j,i<n->j<n->nb (A i j) K:=fun i j u v=>by have:=r 0 i j om om;rwa [eS]at this
 refine PF.of_spec (ak func203 rfl 54 ntmps203 kr sm (by simp[results203]) ?_)
 rw[aF,results203];simp -dsimp only[go_sem,aa];refine(kA n n A l om l om).call ?_;simp -dsimp only[go_sem,bne_self_eq_false,(om:¬((8:Int)<(n:Int)))]
 refine cg (fun O S=>∃i:Nat,i<=n/\O 0=aV n n A/\O 25=.int .i64 n/\O 26=.int .i64 i) (fun O S=>n-bT (O 26)) ?_ ?_
 ·simp -dsimp only[go_sem];exact⟨0,om,rfl⟩
 rintro Q' o O S ⟨i,u,g,a,b⟩;by_cases c:i<n
 ·simp -dsimp only[go_sem,a,b,c];refine cg (fun O S=>∃j:Nat,j<=i/\O 0=aV n n A/\O 6=.int .i64 i/\O 25=.int .i64 n/\O 26=.int .i64 i/\O 29=.int .i64 i/\O 30=.int .i64 j) (fun O S=>i-bT (O 30)) ?_ ?_
  ·simp -dsimp only[go_sem,g,a,b];exact⟨0,om,rfl⟩
  clear g a b;rintro Q2 p O S ⟨j,v,g,w,a,b,e,f⟩;by_cases h:j<i
  ·have d:j<n:=om
   simp -dsimp only[go_sem,e,f,h,aV,bA];refine aP 16 kr ?_
   simp -dsimp only[go_sem,aa,g,w,a,b,e,f,c,d,aV,bA];refine⟨_,(pZ (s i j c d) (s j i d c) om).pure',?_⟩;rw[q.sym j i d c,tW];simp -dsimp only[go_sem,bne_self_eq_false,aM (om:j<1000000),bT]
   exact⟨⟨j+1,om,rfl⟩,om⟩
  ·simp -dsimp only[go_sem,e,f,h];rw[p];simp -dsimp only[go_sem,g,a,b,aM (om:i<1000000),bT]
   exact⟨⟨i+1,om,rfl⟩,om⟩
 ·simp -dsimp only[go_sem,a,b,c];rw[o];simp -dsimp only[go_sem,aa,g];refine(yy n K A l om t q r m).call ?_;simp -dsimp only[go_sem];exact VR.mf rfl

theorem AL(d:n<=16)(c:∀i j,i<n->j<n->nb (A i j) k0)(k i j:Nat)(e:k+i<n)(f:k+j<n):nb (ca A k i j) (17*(k0+10)):=by
 unfold ca;refine(nG (k:=k0) (k+1) _ om fun a b g h=>c _ _ ?_ ?_).mono ?_
 ·rw[jw];split<;>omega
 ·rw[jw];split<;>omega
 ·have:=ay (k0+10) (om:k+1<=16)
  omega
theorem vU(e:n<=16)(f:∀i j,i<n->j<n->nb (A i j) k0)(σ:Nat->Nat)(neg:Bool)(k:Nat)(g:l9 A n σ neg k)(k' i j:Nat)(c:k'+i<n)(d:k'+j<n):nb (ca (fun a b=>A (σ a) b) k' i j) (17*(k0+10)) :=
 AL e (fun i j c d=>f _ j (g.row i c) d) k' i j c d
theorem AM(d:n<=16)(c:∀i j,i<n->j<n->nb (A i j) k0)(e:k<=n):nb (det k A) (17*(k0+10)):=by
 refine(nG (k:=k0) k _ om fun a b f g=>c _ _ om om).mono ?_;have:=ay (k0+10) (om:k<=16)
 omega
theorem GV(n a:Nat)(A:aB)(c:1<=n)(e:n<=8)(f:a<=10000)(d:Pd A n)(b:∀i j,i<n->j<n->nb (A i j) a):PF 158 [aV n n A] (.tup [.big (det n A),.int .i64 0]):=by
 refine PF.of_spec (ak func158 rfl 19 ntmps158 kr sm (by simp[results158]) ?_)
 rw[aF,results158];simp -dsimp only[go_sem];refine au.intro fun h l=>?_;simp -dsimp only[go_sem,aa];refine(qr n (17*(a+10)) A c e om d (AL om b) (fun k f=>AM om b om)).call ?_;simp -dsimp only[go_sem,aa,bne_self_eq_false];refine(tB n (17*(a+10)) A c om om om (d.ne (af n) n (af n)) (vU om b)).call ?_;simp -dsimp only[go_sem];refine au.intro fun m g=>?_;have n5_2:=(ag g).1;simp -dsimp only[go_sem,aa,ai n5_2,dr];exact VR.tup2 (VR.mf rfl) (VR.mf rfl)
theorem vC(n b:Nat)(Q U:aB)(a:1<=n)(q:n<=8)(e:b<=10000)(r:Pd Q n)(g:∀i j,i<n->j<n->nb (Q i j) b)(c:∀i j,i<n->j<n->nb (U i j) b)(s:det n U≠0):PF 162 [aV n n Q,aV n n U] (.tup [aV n n (mm n (fun i j=>U j i) (mm n Q U)),.int .i64 0]):=by
 refine PF.of_spec (ak func162 rfl 66 ntmps162 kr sm (by simp[results162]) ?_)
 rw[aF,results162];simp -dsimp only[go_sem,aa,aV,bA];refine(qr n (17*(b+10)) Q a q om r (AL om g) (fun k e=>AM om g om)).call ?_;simp -dsimp only[go_sem,aa,bne_self_eq_false];refine(kA n n U a om a om).call ?_;simp -dsimp only[go_sem,aa,bne_self_eq_false,(om:¬((n:Int)<n))]
 refine(Lf n (17*(b+10)) U a om om om s (vU om c)).call ?_;simp -dsimp only[go_sem,aa,(om:¬((n:Int)<n))]
 refine(mT n n b U a om a om c om _ _ (cD _ _)).mono ?_;rintro _ S2 ⟨t,u,rfl,h⟩;simp -dsimp only[go_sem,aa];refine(oK n n n b Q U a om a om a om g c om _ _ (cD _ _)).mono ?_;rintro _ S3 ⟨v,w,rfl,d⟩;have l:∀i j,i<n->j<n->nb (mm n Q U i j) (b+b+10):=fun i j m o=>pL (f:=fun k=>Q i k*U k j) (fun k e=>(g i k m e).mul (c k j e o)) om n (af _);simp -dsimp only[go_sem,aa];refine(oK n n n (b+b+10) (fun i j=>U j i) (mm n Q U) a om a om a om (fun i j m o=>(c j i o m).mono om) l om _ _ (dT.two (h.1.ext d.2.1).vr.va d.1.vr.va)).mono ?_;rintro _ S4 ⟨x,y,rfl,p⟩;simp -dsimp only[go_sem];exact VR.tup2 p.1.vr (VR.mf rfl)
theorem Ml(e:1<=n)(d:n<=16)(c:1<=k0)(f:∀i j,i<n->j<n->nb (U i j) k0){i j:Nat}(g:i<n)(h:j<n):nb (jF n U i j) (17*(k0+10)):=by
 rw[xU e U h g];unfold o6;refine(nG (k:=k0) n _ d fun a b l m=>?_).mono ?_
 ·simp only[setRow];split
  ·unfold dC;split
   ·exact nb.one c
   ·exact nb.zero k0
  ·exact f a b l m
 ·have:=ay (k0+10) d;omega
theorem BF(n b:Nat)(U:aB)(e:1<=n)(m:n<=8)(c:1<=b)(o:b<=100)(f:∀i j,i<n->j<n->nb (U i j) b)(g:det n U*det n U=1):PF 96 [aV n n U] (.tup [aV n n (Gb n U),.bool true]):=by
 refine PF.of_spec (ak func96 rfl 30 ntmps96 kr sm (by simp[results96]) ?_)
 rw[aF,results96];have k:det n U≠0:=fun h=>by rw[h]at g;simp at g
 simp -dsimp only[go_sem,aa,aV,bA];refine(tB n (17*(b+10)) U e om om om k (vU om f)).call ?_;simp -dsimp only[go_sem];refine au.intro fun t u=>?_;rcases Hi g with h|h
 ·rw[h];simp -dsimp only[go_sem,aa,dr];refine(pR (a:=1) (by unfold iF;omega)).call ?_
  simp -dsimp only[go_sem,aa,beq_self_eq_true];refine(qj n b U e m c o f _ _ (cD _ _)).mono ?_;rintro _ S2 ⟨p,q,rfl,d⟩;simp -dsimp only[go_sem];refine VR.tup2 ?_ (VR.mf rfl);exact(d.1.congr fun i j _ _=>by unfold Gb;rw[if_pos h]).vr
 ·rw[h];simp -dsimp only[go_sem,aa,dr];refine(pR (a:=-1) (by unfold iF;omega)).call ?_
  simp -dsimp only[go_sem,aa,beq_self_eq_true,show((-1:Int)==1)=false from rfl];refine(qj n b U e m c o f _ _ (cD _ _)).mono ?_;rintro _ S2 ⟨p,q,rfl,d⟩;simp -dsimp only[go_sem,aa];refine(xf n n (17*(b+10)) (jF n U) e om om (fun i j r s=>Ml e om c f r s) om _ _ (dT.one d.1.vr.va)).mono ?_;rintro _ S3 ⟨v,w,rfl,l⟩;simp -dsimp only[go_sem];refine VR.tup2 ?_ (VR.mf rfl);exact(l.1.congr fun i j _ _=>by unfold Gb;rw[if_neg om]).vr

structure QF(n:Nat)(Q:aB):Prop where
 pd:Pd Q n
 one:1<=n
 five:n<=5
 ent:∀i j,i<n->j<n->(Q i j).natAbs<=246591576450
 dt:det n Q<=10000
theorem p2_38:(2:Int)^38=274877906944:=by decide
theorem QF.ze(h:QF n Q):∀i,i<n->Q i i<=2^38:=fun i a=>by
 have:=h.ent i i a a;rw[p2_38];omega
theorem QF.run(h:QF n Q):vD Q n 190 n (lT Q n):=Ic h.pd h.one (by have:=h.five;omega) h.ze (by have:=h.five;omega)
def oa(n:Nat)(Q:aB):aB:=gT Q n (lT Q n)
def su(n:Nat)(Q:aB):aB:=vf (lT Q n)
theorem QF.red(h:QF n Q):G3 (oa n Q) n/\det n (oa n Q)=det n Q:=by
 have a:=h.run;have b:=h.dt;exact⟨G3.of a.ls.pd a.ok h.five (by show det n (gT Q n (lT Q n))<=59049;rw[a.dn];omega),a.dn⟩
theorem QF.uni(h:QF n Q):det n (su n Q)*det n (su n Q)=1:=h.run.ls.uni
theorem L2{x:Int}{a:Nat}(h:x*x<=2^(2*a))(c:a<b):nb x b:=pq (sB h) c
theorem Lw:(2:Int)^17=131072:=by decide
theorem QF.unb(h:QF n Q){i j:Nat}(l:i<n)(b:j<n):nb (su n Q i j) 86:=by
 obtain⟨m,rfl⟩:∃m,n=m+1:=⟨n-1,by have:=h.one;omega⟩
 have c:=h.five;have d:=h.pd.coord (m-i) (lT Q (m+1) j) i h.ze om;have o:jn (m+1) Q (lT Q (m+1) j) (lT Q (m+1) j)<=118098:=h.red.1.diag c b;have f:0<jn (m+1) Q (lT Q (m+1) j) (lT Q (m+1) j):=h.red.1.pd.diag b;have g:((2:Int)^38)^m<=2^152:=by rw[<-Int.pow_mul];exact dU om
 have k:=rF (aS f) g (show jn (m+1) Q (lT Q (m+1) j) (lT Q (m+1) j)<=2^17 by rw[Lw];omega)
 refine L2 (a:=85) (dq (dq d k) (dU om)) om
theorem QF.gram:mm n (fun i j=>su n Q j i) (mm n Q (su n Q)) i j=oa n Q i j:=by
 unfold mm oa gT jn su vf;exact aA fun k _=>Int.mul_comm _ _
def jf(n:Nat)(Q:aB):aB:=Gb n (su n Q)
theorem QF.wgram(h:QF n Q){i j:Nat}(c:i<n)(d:j<n):jn n (oa n Q) (fun a=>jf n Q a i) (fun a=>jf n Q a j)=Q i j :=
 Il h.pd.sym (fun a b e f=>DX h.one h.uni e f) (fun _ _ _ _=>rfl) c d
theorem QF.wsq(h:QF n Q){i j:Nat}(l:i<n)(b:j<n):jf n Q i j*jf n Q i j<=2^(17*(n-1)+38):=by
 obtain⟨m,rfl⟩:∃m,n=m+1:=⟨n-1,by have:=h.one;omega⟩
 have d:=h.five;have c:=h.red.1.pd.coord (E:=2^17) (m-i) (fun a=>jf (m+1) Q a j) i (fun k f=>by have:=h.red.1.diag d f;rw[Lw];omega) om
 rw[h.wgram b b]at c;have g:((2:Int)^17)^m<=2^(17*m):=by rw[<-Int.pow_mul];exact Int.le_refl _
 exact dq c (rF (aS (h.pd.diag b)) g (h.ze j b))
theorem QF.wfit(h:QF n Q){i j:Nat}(b:i<n)(c:j<n):(jf n Q i j).natAbs<2^54:=by
 have d:=h.five;exact pq (sB (a:=53) (dq (h.wsq b c) (dU om))) om
theorem KK{a b:Int}:decide (0<ka a b)=decide (b<a):=by
 unfold ka;split
 ·simp;omega
 ·split<;>simp[*]
theorem dd.frm{S':St}{c p q:Nat}{g:Nat->Nat}(h:dd S c g p q A)(a:∀d,mH M n d->S d=ae)(f:∀d X,¬mH M n d->S d=eL X->S' d=eL X):dd S' c g p q A:=by
 have kp:∀{b ty es k:Nat} {z:Nat->AV},aR S b ty es k z->aR S' b ty es k z:=fun⟨g',e,j⟩=>⟨g',f _ _ (fun l=>by rw[a _ l]at e;cases e) e,j⟩
 exact⟨kp h.outer,fun i a=>kp (h.row i a),h.inj⟩
theorem yY(S:St)(n c:Nat)(gc:Nat->Nat)(Q:aB)(h:QF n Q)(H:dd S c gc n n Q) :
  cL 95 [.sl 1 c 0 n] S (fun r S'=>∃b g bt gt S1,r=.tup [.sl 1 b 0 n,.sl 1 bt 0 n,.int .i64 0]/\dd S' bt gt n n (su n Q)/\kS S1 S' b g n n (oa n Q)/\cY S S1):=by
 have o:=h.one;have O:=h.five;have m:∀i j,i<n->j<n->nb (Q i j) 39:=fun i j f l=>by have:=h.ent i j f l;unfold nb;omega
 have I:=h.dt;have J:=h.run;refine ak func95 rfl 51 ntmps95 kr sm (by simp[results95]) ?_
 rw[aF,results95];simp -dsimp only[go_sem,aa];refine(GV n 39 Q o om om h.pd m).spec (dT.one H.vr.va) ?_;simp -dsimp only[go_sem];refine au.intro fun y K=>?_;simp -dsimp only[go_sem,aa,bne_self_eq_false];refine aP 4 kr ?_
 simp -dsimp only[go_sem,aa,dr];have z:nb (det n Q) 64:=by have:=h.pd.pos n (af n);unfold nb;omega
 refine⟨_,(fQ (a:=10000) om om).pure',_,(pZ z (show nb (10000:Int) 64 by unfold nb;omega) om).pure',?_⟩
 simp -dsimp only[go_sem,KK,(om:¬((10000:Int)<det n Q))]
 have t:cY S ((S.upd y ⟨50,2,1,fun _=>.big 0⟩).upd y ⟨50,2,1,aL (fun _=>.big 0) 0 (.big (det n Q))⟩):=((cY.refl S).upd K _).upd K _;generalize (S.upd y ⟨50,2,1,fun _=>.big 0⟩).upd y ⟨50,2,1,aL (fun _=>.big 0) 0 (.big (det n Q))⟩=S1 at *;have v:=H.ext t;refine(yH S1 n (17*(39+10)) c gc Q o om om (AL om m) (h.pd.ne (af n)) (fun k P=>AM om m om) v).mono ?_;rintro _ S2 ⟨M,rfl,A,B,p⟩;have R:I9 S2 M n Q ma:=kR.congr A (fun k P=>(oZ om).symm) (fun i j f l=>(J4 f l).symm) (fun _ _ _ _=>rfl);simp -dsimp only[go_sem,aa];refine(Hu Q n 190 38 h.pd o om h.ze om om S2 M R).mono ?_;rintro _ S3 ⟨L,T⟩;have q:mJ M n S1 S3:=(mJ.ofExt B).trans T;have C:=dd.frm v p q;have w:cY S1 S3:=fun d X D=>q d X (fun U=>by rw[p d U]at D;cases D) D
 obtain⟨g,u,W,Y,V,Z⟩:=kR.c0 L;simp -dsimp only[go_sem,aa,u,V];refine(mT n n 86 (lT Q n) o om o om (fun i j f l=>h.unb l f) om _ _ (dT.one L.bas.vr.va)).mono ?_;rintro _ S4 ⟨bt,gt,rfl,s⟩;have E:=C.ext s.2.1;have N:dd S4 bt gt n n (su n Q):=s.1;have F:mm n (fun i j=>su n Q j i) (mm n Q (su n Q))=oa n Q:=by funext i j;exact QF.gram
 have G:det n (su n Q)≠0:=fun e=>by have:=h.uni;rw[e]at this;simp at this
 simp -dsimp only[go_sem,aa];refine(vC n 86 Q (su n Q) o om om h.pd (fun i j f l=>(m i j f l).mono om) (fun i j f l=>h.unb f l) G).spec (dT.two E.vr.va N.vr.va) ?_;rw[F];simp -dsimp only[go_sem,aa];refine(o9 n n (oa n Q) o om o om (fun i j f l=>by have:=h.red.1.entry O f l;unfold iF;omega) _ _ (cD _ _)).mono ?_
 rintro _ S5 ⟨b,gb,rfl,x⟩;simp -dsimp only[go_sem];exact⟨b,gb,bt,rfl,gt,N.ext x.2.1,S4,x,(t.trans w).trans s.2.1⟩

end Go.Proofs.YtdobfmlmenaajaaGreatDoor
