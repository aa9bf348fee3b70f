/-
  Lemmas for NeighbourVerify.
-/
import Derived.Test.YtdobfmlmenaajaaGreatDoorV12
namespace Go.Proofs.YtdobfmlmenaajaaGreatDoor
open Go.RowKit Tryz
open _root_.List renaming replicate→bZ,getD→cS
open _root_.Nat renaming beq→ap,blt→aQ,ble→jH,div→qY
open _root_.Option renaming none→ab
set_option maxHeartbeats 6400000
set_option maxRecDepth 4096
set_option linter.all false
noncomputable section
inductive TE where
 | e
 | n (x:XV) (l r:TE)
def kg(s:TE):Nat->XV:=TE.rec (motive:=fun _=>Nat->XV) (fun _=>.any) (fun x _ _ a b t=>Bool.rec (Bool.rec (b (Nat.sub (qY t 2) 1)) (a (qY t 2)) (ap (Nat.mod t 2) 1)) x (ap t 0)) s
def xA(v:XV)(fuel:Nat):Nat->TE:=Nat.rec (motive:=fun _=>Nat->TE) (fun _=>.e) (fun _ ih t=>Bool.rec (Bool.rec (.n .any .e (ih (Nat.sub (qY t 2) 1))) (.n .any (ih (qY t 2)) .e) (ap (Nat.mod t 2) 1)) (.n v .e .e) (ap t 0)) fuel
def zC(s:TE)(i:Nat)(v:XV):TE:=TE.rec (motive:=fun _=>Nat->TE) (fun t=>xA v (Nat.succ t) t) (fun y l r a b t=>Bool.rec (Bool.rec (.n y l (b (Nat.sub (qY t 2) 1))) (.n y (a (qY t 2)) r) (ap (Nat.mod t 2) 1)) (.n v l r) (ap t 0)) s i
def tj(t:Nat):kg .e t=.any:=rfl
def kV(x:XV)(l r:TE)(t:Nat):kg (.n x l r) t=if t=0 then x else if t%2=1 then kg l (t/2)else kg r (t/2-1):=by
 show Bool.rec (motive:=fun _=>XV) (Bool.rec (motive:=fun _=>XV) (kg r (t/2-1)) (kg l (t/2)) (ap (t%2) 1)) x (ap t 0)=_;rw[ym,ym]
def Pq(v:XV)(f t:Nat):xA v (f+1) t=if t=0 then .n v .e .e else if t%2=1 then .n .any (xA v f (t/2)) .e else .n .any .e (xA v f (t/2-1)):=by
 show Bool.rec (motive:=fun _=>TE) (Bool.rec (motive:=fun _=>TE) (.n .any .e (xA v f (t/2-1))) (.n .any (xA v f (t/2)) .e) (ap (t%2) 1)) (.n v .e .e) (ap t 0)=_;rw[ym,ym]
def SR(i:Nat)(v:XV):zC .e i v=xA v (i+1) i:=rfl
def SQ(y:XV)(l r:TE)(t:Nat)(v:XV):zC (.n y l r) t v=if t=0 then .n v l r else if t%2=1 then .n y (zC l (t/2) v) r else .n y l (zC r (t/2-1) v):=by
 show Bool.rec (motive:=fun _=>TE) (Bool.rec (motive:=fun _=>TE) (.n y l (zC r (t/2-1) v)) (.n y (zC l (t/2) v) r) (ap (t%2) 1)) (.n v l r) (ap t 0)=_;rw[ym,ym]
theorem pD{v:XV}:∀(f t:Nat),t<f->∀j,kg (xA v f t) j=if j=t then v else .any
 | 0,t,h,_=>om
 | f+1,t,h,j=>by
  rw[Pq];by_cases a:t=0
  .subst a;rw[ah rfl,kV,tj,tj];by_cases e:j=0
   .rw[ah e,ah e]
   .rw[af e,af e];split<;>rfl
  .rw[af a];by_cases c:j=0
   .subst c;rw[af (show ¬(0=t)from fun e=>a e.symm)];split<;>rw[kV,ah rfl]
   .by_cases e:j=t
    .subst e;rw[ah rfl];split
     .rename_i b;rw[kV,af a,ah b,pD f _ om,ah rfl]
     .rename_i b;rw[kV,af a,af b,pD f _ om,ah rfl]
    .obtain⟨b,i⟩:=yM a c e;rw[af e];split
     .rename_i d;rw[kV,af c,tj];split
      .rename_i g;rw[pD f _ om,af (b d g)]
      .rfl
     .rename_i d;rw[kV,af c,tj];split
      .rfl
      .rename_i g;rw[pD f _ om,af (i d g)]
theorem mR:∀(s:TE) (d:Nat) (v:XV) (t:Nat),kg (zC s d v) t=if t=d then v else kg s t
 | .e,i,v,j=>by rw[SR,pD _ _ om,tj]
 | .n y l r,t,x,j=>by
  rw[SQ];by_cases a:t=0
  .subst a;rw[ah rfl,kV,kV];by_cases e:j=0
   .rw[ah e,ah e]
   .rw[af e,af e,af e]
  .rw[af a];by_cases b:j=0
   .subst b;rw[af (show ¬(0=t)from fun e=>a e.symm),kV,ah rfl];split<;>rw[kV,ah rfl]
   .by_cases e:j=t
    .subst e;rw[ah rfl];split
     .rename_i c;rw[kV,af a,ah c,mR,ah rfl]
     .rename_i c;rw[kV,af a,af c,mR,ah rfl]
    .obtain⟨c,h⟩:=yM a b e;rw[af e];split
     .rename_i f;rw[kV,kV,af b,af b];split
      .rename_i g;rw[mR,af (c f g)]
      .rfl
     .rename_i f;rw[kV,kV,af b,af b];split
      .rfl
      .rename_i g;rw[mR,af (h f g)]
def ofL:List XV->Nat->TE->TE
 | [],_,s=>s
 | x::l,k,s=>ofL l (k+1) (zC s k x)
theorem JL:∀(l:List XV) (k:Nat) (s:TE) (t:Nat),kg (ofL l k s) t=if k<=t/\t<k+l.length then l.getD (t-k) .any else kg s t
 | [],k,s,t=>by simp only[ofL,fY];rw[af om]
 | x::l,k,s,t=>by
  simp only[ofL,cA];rw[JL l (k+1),mR];by_cases e:t=k
  .subst e;rw[af om,ah rfl,ah om,cq];rfl
  .rw[af e];by_cases h:k+1<=t/\t<k+1+l.length
   .rw[ah h,ah om,(om:t-k=(t-(k+1))+1)];rfl
   .rw[af h,af om]
def zY(l:List XV):TE:=ofL l 0 .e
def Ht(l:List XV)(t:Nat):kg (zY l) t=l.getD t .any:=by
 unfold zY;rw[JL,tj,az,d6];by_cases h:t<l.length
 .rw[ah ⟨jW _,h⟩]
 .rw[af (fun e=>h e.2),io,cK om];rfl
def TR(φ:Ph)(te:TE)(O:Tm):Prop:=∀t,ER φ (kg te t) (O t)
def TR.mono{φ ψ:Ph}{te:TE}{O:Tm}(h:TR φ te O)(a:φ.le ψ):TR ψ te O:=fun t=>(h t).mono a
def TR.put{φ:Ph}{te:TE}{O:Tm}(h:TR φ te O){d:Nat}{v:XV}{z:AV}(a:ER φ v z):TR φ (zC te d v) (O.put (some d) z):=fun t=>by
 rw[mR,Tm.put_eq];by_cases e:t=d
 .simp only[e,ah];exact a
 .simp only[e,aM];exact h t
def Tz:Value->XV
 | .int k n=>.int k n
 | .bool b=>.bool b
 | .slice ab 0 0=>.nil
 | _=>.any
def QM(φ:Ph)(v:Value):ER φ (Tz v) (RS v):=by
 unfold Tz;split
 .simp[ER,RS]
 .simp[ER,RS]
 .simp[ER,RS]
 .simp[ER]
def lr(te:TE):Operand->XV
 | .tmp t=>kg te t
 | .const v=>Tz v
 | .global _=>.any
 | .func f=>.fn f []
def TR.ev{φ:Ph}{te:TE}{O:Tm}(h:TR φ te O)(x:Operand):ER φ (lr te x) (ev O x):=by
 cases x with
 | tmp t=>exact h t
 | const v=>exact QM φ v
 | global g=>simp[lr,ER]
 | func f=>simp only[lr,Go.Proofs.YtdobfmlmenaajaaGreatDoor.ev,ER];exact⟨[],rfl,by simp[fO]⟩
def TR.evL{φ:Ph}{te:TE}{O:Tm}(h:TR φ te O):∀l:List Operand,fO φ (l.map (lr te)) (l.map (Go.Proofs.YtdobfmlmenaajaaGreatDoor.ev O))
 | []=>by simp[fO]
 | x::l=>by simp only[cU,fO];exact⟨h.ev x,h.evL l⟩
def oA:Nat->XV->Bool
 | 1,.int .u32 _=>false
 | 1,.int _ _=>true
 | 1,.bool _=>true
 | 1,.nil=>true
 | 1,.sl ..=>true
 | 1,.ptr ..=>true
 | 1,.lst ..=>true
 | 1,.pat ..=>true
 | 1,.fn ..=>true
 | 1,.nfn=>true
 | 1,.mfn ..=>true
 | 2,.big _=>true
 | _,_=>false
def lR{φ:Ph}{es:Nat}{x:XV}{a:AV}(h:oA es x=true)(c:ER φ x a):eO es a:=by
 unfold oA at h;split at h
 .cases h
 .rename_i k n d;simp only[ER]at c;subst c;simp only[eO];intro e;subst e;exact d rfl
 all_goals first
  | (simp only[ER]at c;subst c;trivial)
  | (simp only[ER]at c;obtain⟨b,_,rfl⟩:=c;trivial)
  | (simp only[ER]at c;obtain⟨b,rfl,_⟩:=c;trivial)
  | exact absurd h dc
def ow(es:Nat):List XV->Bool
 | []=>true
 | x::l=>oA es x&&ow es l
theorem pN{φ:Ph}{es:Nat}:∀{l:List XV} {r:List AV},ow es l=true->fO φ l r->∀z∈r,eO es z
 | [],[],_,_,z,c=>by cases c
 | x::l,a::r,h,b,z,c=>by
  simp only[ow,ay]at h;simp only[fO]at b;rcases ed.1 c with rfl|c
  .exact lR h.1 b.1
  .exact pN h.2 b.2 z c
 | [],_::_,_,b,_,_=>by simp[fO]at b
 | _::_,[],_,b,_,_=>by simp[fO]at b
theorem wF{φ:Ph}{es:Nat}:∀{l:List XV} {g:Nat->AV} {k:Nat},ow es l=true->l0 φ l g k->∀j,j<l.length->eO es (g (k+j))
 | [],_,_,_,_,j,b=>absurd b sm
 | x::l,g,k,h,a,0,_=>by
  simp only[ow,ay]at h;simp only[l0]at a;exact lR h.1 a.1
 | x::l,g,k,h,a,j+1,b=>by
  simp only[ow,ay]at h;simp only[l0]at a;have:=wF h.2 a.2 j (by simpa using b)
  rwa [(om:k+1+j=k+(j+1))]at this
def fO.toG{φ:Ph}{l:List XV}{r:List AV}(h:fO φ l r):l0 φ l (fun j=>r.getD j .any) 0:=l0.of fun j x b=>by
 obtain⟨a,c,d⟩:=h.get b;simp only[az,cS,c,gA];exact d
abbrev XR:=Option (XV×Nat×EL)
abbrev eP:=Nat->List XV->Nat->EL->XR
def uA(nx:Nat)(l:EL)(X:EB)(v:XV):XR:=match eW l nx with
 | ab=>some (v,nx+1,sU l nx (some X))
 | some _=>ab
def XK(φ:Ph)(v:XV)(l:EL)(K:AV->St->Prop):Prop:=∀ψ z S,φ.le ψ->ER ψ v z->MR ψ l S->K z S
def qo{φ:Ph}{nx:Nat}{l:EL}{S:St}{ty es n:Nat}{L:List XV}{v:XV}{r:XV×Nat×EL}{g:Nat->AV}{K:AV->St->Prop}(h:uA nx l ⟨ty,es,L⟩ v=some r)(a:MR φ l S)(c:l0 φ L g 0)(d:n=L.length)(e:XK φ r.1 r.2.2 K)
  {b:Nat} (f:S b=ab) {z:AV} (i:v=.ptr es nx 0/\z=.ptr es b 0∨v=.sl es nx 0 n/\z=.sl es b 0 n):K z (S.upd b ⟨ty,es,n,g⟩):=by
 unfold uA at h;split at h
 .rename_i j
  cases h
  obtain⟨k,m⟩:=a.new j f (ty:=ty) (es:=es) c d;refine e _ _ _ k ?_ m;rcases i with⟨rfl,rfl⟩|⟨rfl,rfl⟩
  .simp only[ER];exact⟨b,by unfold Ph.set;rw[ah rfl],rfl⟩
  .simp only[ER];exact⟨b,by unfold Ph.set;rw[ah rfl],rfl⟩
 .cases h
def zE:Nat->Option (Nat×XV)
 | 2=>some (1,.int .i64 0)
 | 3=>some (1,.int .i64 0)
 | 4=>some (1,.bool false)
 | 28=>some (1,.nil)
 | 29=>some (1,.nil)
 | 52=>some (1,.nil)
 | 59=>some (1,.nil)
 | 50=>some (2,.big 0)
 | _=>ab
def EO{t es:Nat}{x:XV}(h:zE t=some (es,x)):∃a v,gM t=some (es,a,v)/\∀φ,ER φ x a:=by
 unfold zE at h;split at h<;>first|(cases h;exact⟨_,_,rfl,fun φ=>by simp[ER]⟩)|cases h
def zA:Nat->Option (Nat×List XV)
 | 167=>some (2,[.big 0,.big 0])
 | 197=>some (2,[.big 0,.big 0,.big 0,.big 0,.big 0,.big 0,.big 0])
 | 218=>some (1,[.nil,.int .i64 0])
 | 202=>some (1,[.int .u64 0,.int .u64 0])
 | _=>ab
def zn(t nx:Nat)(l:EL):XR:=match zE t with
 | some (es,x)=>uA nx l ⟨t,es,[x]⟩ (.ptr es nx 0)
 | ab=>match zA t with
  | some (es,L)=>uA nx l ⟨t,es,L⟩ (.ptr es nx 0)
  | ab=>ab
def KA{φ:Ph}{t nx:Nat}{l:EL}{S:St}{r:XV×Nat×EL}{K:AV->St->Prop}(h:zn t nx l=some r)(f:MR φ l S)(g:XK φ r.1 r.2.2 K):ns t S K:=by
 unfold zn at h
 cases c:zE t with
 | some p =>
  obtain⟨es,x⟩:=p;rw[c]at h;obtain⟨a,v,i,j⟩:=EO c;unfold ns;rw[i];exact fun b d=>qo h f (by simp only[l0];exact⟨j φ,trivial⟩) rfl g d (.inl ⟨rfl,rfl⟩)
 | none =>
  rw[c]at h;simp only at h;unfold zA at h;split at h
  .rename_i es L e;split at e<;>first
    | (cases e;exact fun b d=>qo h f (by simp[l0,ER]) rfl g d (.inl ⟨rfl,rfl⟩))
    | cases e
  .cases h
def MB(t:Nat)(x:XV)(nx:Nat)(l:EL):XR:=match fD t with
 | some (es,k)=>match ap k 1 with
  | true=>match oA es x with
   | true=>uA nx l ⟨t,es,[x]⟩ (.ptr es nx 0)
   | false=>ab
  | false=>match x with
   | .agg L=>match ap L.length k&&ow es L with
    | true=>uA nx l ⟨t,es,L⟩ (.ptr es nx 0)
    | false=>ab
   | _=>ab
 | ab=>ab
def Pl{φ:Ph}{t nx:Nat}{x:XV}{a:AV}{l:EL}{S:St}{r:XV×Nat×EL}{K:AV->St->Prop}(h:MB t x nx l=some r)(d:ER φ x a)(j:MR φ l S)(m:XK φ r.1 r.2.2 K):kH t a S K:=by
 unfold MB at h;unfold kH
 cases n:fD t with
 | none=>rw[n]at h;cases h
 | some p =>
  obtain⟨es,k⟩:=p;rw[n]at h;simp only at h ⊢
  cases f:ap k 1 with
  | true =>
   rw[f]at h;rw[ah (ak f)];simp only at h;split at h
   .rename_i c;exact⟨lR c d,fun b g=>qo h j (by simp only[l0];exact⟨d,trivial⟩) rfl m g (.inl ⟨rfl,rfl⟩)⟩
   .cases h
  | false =>
   rw[f]at h;rw[af (fun e=>by subst e;simp at f)]
   simp only at h;split at h
   .rename_i L;simp only[ER]at d;obtain⟨R,rfl,i⟩:=d;split at h
    .rename_i c;simp only[ay]at c;have e:=ak c.1;refine⟨by rw[i.length];exact e,pN c.2 i,fun b g=>?_⟩
     exact qo h j i.toG e.symm m g (.inl ⟨rfl,rfl⟩)
    .cases h
   .cases h
def xt(t:Nat)(x:XV)(l:EL):Option XV:=match x with
 | .pat es y=>match fD t with
  | some (es',k)=>match ap es es'&&ap k 1 with
   | true=>some y
   | false=>ab
  | ab=>ab
 | .ptr es i k0=>match eW l i with
  | some (some X)=>match fD t with
   | some (es',k)=>match ap es' es&&ap X.es es&&jH (k0+k) X.l.length with
    | true=>match ap k 1 with
     | true=>X.l[k0]?
     | false=>some (.agg ((X.l.drop k0).take k))
    | false=>ab
   | ab=>ab
  | _=>ab
 | _=>ab
theorem Cf{g:Nat->AV}:∀(k i j:Nat),(eG g i k)[j]? = if j<k then some (g (i+j))else ab
 | 0,i,j=>by simp[eG]
 | k+1,i,0=>by simp[eG]
 | k+1,i,j+1=>by
  simp only[eG,cn,Cf k (i+1) j,Nat.add_lt_add_iff_right];rw[(om:i+1+j=i+(j+1))]
theorem Ce{g:Nat->AV}:∀(k i:Nat),(eG g i k).length=k
 | 0,_=>rfl
 | k+1,i=>by simp[eG,Ce k]
def EX{φ:Ph}{t:Nat}{x v:XV}{a:AV}{l:EL}{S:St}{K:AV->Prop}(h:xt t x l=some v)(d:ER φ x a)(u:MR φ l S)(o:∀z,ER φ v z->K z):pU t a S K:=by
 unfold xt at h;split at h
 .rename_i es y;simp only[ER]at d;obtain⟨y',rfl,w⟩:=d;split at h
  .rename_i es' k p;split at h
   .rename_i c;simp only[ay]at c
    cases h
    have m:=ak c.1;have q:=ak c.2;subst m q;exact⟨p,o _ w⟩
   .cases h
  .cases h
 .rename_i es i F;simp only[ER]at d;obtain⟨b,A,rfl⟩:=d;split at h
  .rename_i X B;obtain⟨b',g,m,q,s⟩:=u.live i X B;rw[A]at m;cases m;split at h
   .rename_i es' k p;split at h
    .rename_i c;simp only[ay]at c;have C:=ak c.1.1;have D:=ak c.1.2;have E:=cE c.2;unfold pU;simp only[q,p];refine⟨C,D,E,?_⟩
     cases n:ap k 1 with
     | true =>
      rw[n]at h;have:=ak n;subst this;simp only at h;rw[ah rfl];have:=s.get h;rw[az]at this;exact o _ this
     | false =>
      rw[n]at h;rw[af (fun e=>by subst e;simp at n)]
      cases h
      refine o _ ?_;simp only[ER];refine⟨_,rfl,fO.of (by simp[Ce];omega) fun j x a d f=>?_⟩
      rw[Cf]at f;by_cases r:j<k
      .rw[ah r]at f;cases f;rw[fJ r,q9]at d;have:=s.get d
       rwa [az]at this
      .rw[af r]at f;cases f
    .cases h
   .cases h
  .cases h
 .cases h
def xG:List XV->Nat->List XV->List XV
 | l,_,[]=>l
 | l,i,x::r=>xG (l.set i x) (i+1) r
theorem we:∀(r l:List XV) (i:Nat),(xG l i r).length=l.length
 | [],_,_=>rfl
 | x::r,l,i=>by simp[xG,we r]
theorem wg:∀(r l:List XV) (i j:Nat),i+r.length<=l.length->(xG l i r)[j]? = if i<=j/\j<i+r.length then r[j-i]? else l[j]?
 | [],l,i,j,_=>by
  simp only[xG,fY,cN];rw[af om]
 | x::r,l,i,j,h=>by
  simp only[cA]at h;simp only[xG,wg r (l.set i x) (i+1) j (by simp;omega),cA]
  by_cases e:j=i
  .subst e;rw[af om,ah om,Sy om,cq];rfl
  .by_cases a:i+1<=j/\j<i+1+r.length
   .rw[ah a,ah om,(om:j-i=j-(i+1)+1),cn]
   .rw[af a,af om,yV om]
def GR(t:Nat)(x y:XV)(l:EL):Option EL:=match x with
 | .ptr es i k0=>match eW l i with
  | some (some X)=>match fD t with
   | some (es',k)=>match ap es' es&&ap X.es es&&jH (k0+k) X.l.length with
    | true=>match ap k 1 with
     | true=>match oA es y with
      | true=>some (sU l i (some ⟨X.ty,X.es,X.l.set k0 y⟩))
      | false=>ab
     | false=>match y with
      | .agg L=>match ap L.length k&&ow es L with
       | true=>some (sU l i (some ⟨X.ty,X.es,xG X.l k0 L⟩))
       | false=>ab
      | _=>ab
    | false=>ab
   | ab=>ab
  | _=>ab
 | _=>ab
def Ks{φ:Ph}{t:Nat}{x y:XV}{a c:AV}{l l':EL}{S:St}{K:St->Prop}(h:GR t x y l=some l')(d:ER φ x a)(m:ER φ y c)(q:MR φ l S)(v:∀S',MR φ l' S'->K S'):qE t a c S K:=by
 unfold GR at h;split at h
 .rename_i es i r;simp only[ER]at d;obtain⟨b,s,rfl⟩:=d;split at h
  .rename_i X u;obtain⟨b',g,w,A,z⟩:=q.live i X u;rw[s]at w;cases w;split at h
   .rename_i es' k B;split at h
    .rename_i n;simp only[ay]at n;have C:=ak n.1.1;have D:=ak n.1.2;have E:=cE n.2;unfold qE;simp only[A,B];refine⟨C,D,E,?_⟩
     cases o:ap k 1 with
     | true =>
      rw[o]at h;have:=ak o;subst this;simp only at h;rw[ah rfl];split at h
      .rename_i f
       cases h
       refine⟨lR f m,v _ (q.put u s (l0.of fun j x d=>?_) sm)⟩
       simp only[bR,az];by_cases e:j=r
       .subst e;rw[Sy om]at d;cases d;rw[ah rfl];exact m
       .rw[yV om]at d;rw[af e];have:=z.get d
        rwa [az]at this
      .cases h
     | false =>
      rw[o]at h;rw[af (fun e=>by subst e;simp at o)]
      simp only at h;split at h
      .rename_i L;simp only[ER]at m;obtain⟨R,rfl,p⟩:=m;split at h
       .rename_i f;simp only[ay]at f;have F:=ak f.1
        cases h
        refine⟨by rw[p.length];exact F,pN f.2 p,v _ (q.put u s (l0.of fun j x d=>?_) (by simp[we]))⟩
        rw[wg _ _ _ _ om]at d;simp only[ja,az,p.length];by_cases e:r<=j/\j<r+L.length
        .rw[ah e]at d;rw[ah e];obtain⟨a,G,H⟩:=p.get d;simp only[cS,G,gA];exact H
        .rw[af e]at d;rw[af e];have:=z.get d
         rwa [az]at this
       .cases h
      .cases h
    .cases h
   .cases h
  .cases h
 .cases h
end

noncomputable section
def Kv:XV->Option Nat
 | .int _ (.ofNat n)=>some n
 | _=>ab
def yw{φ:Ph}{x:XV}{a:AV}{n:Nat}(h:Kv x=some n)(b:ER φ x a):∃k,a=.int k (n:Int):=by
 unfold Kv at h;split at h
 .cases h;simp only[ER]at b;exact⟨_,b⟩
 .cases h
def GW(t:Nat)(x i:XV):Option XV:=match Kv i with
 | ab=>ab
 | some n=>match dY t,x with
  | some e,.sl es b off len=>match ap es (cg e)&&aQ n len with
   | true=>some (.ptr es b (off+n))
   | false=>ab
  | some e,.lst es L=>match ap es (cg e),L[n]? with
   | true,some y=>some (.pat es y)
   | _,_=>ab
  | ab,.ptr es b k=>match ap es 2&&ap t 195&&aQ n 2 with
   | true=>some (.ptr 2 b (k+n))
   | false=>ab
  | _,_=>ab
def Kx{φ:Ph}{t:Nat}{x i v:XV}{a c:AV}{K:AV->Prop}(h:GW t x i=some v)(f:ER φ x a)(p:ER φ i c)(l:∀z,ER φ v z->K z):qF t a c K:=by
 unfold GW at h;split at h
 .cases h
 .rename_i n q;obtain⟨k,rfl⟩:=yw q p;unfold qF;split at h
  .rename_i e es b off len j;simp only[ER]at f;obtain⟨b',m,rfl⟩:=f;split at h
   .rename_i d;simp only[ay]at d
    cases h
    have o:n<len:=by simpa using d.2
    simp only[j];exact⟨ak d.1,⟨om,om⟩,l _ (by simp only[ER,eg];exact⟨b',m,rfl⟩)⟩
   .cases h
  .rename_i e es L j;simp only[ER]at f;obtain⟨g,rfl,r⟩:=f;split at h
   .rename_i y s d
    cases h
    have o:n<L.length:=by
     rcases aF n L.length with h|h
     .exact h
     .rw[cK h]at d;cases d
    simp only[j];refine⟨ak s,⟨om,om⟩,l _ ?_⟩
    simp only[ER,eg];have:=r.get d;rw[az]at this;exact⟨_,rfl,this⟩
   .cases h
  .rename_i es b k j;simp only[ER]at f;obtain⟨b',m,rfl⟩:=f;split at h
   .rename_i d;simp only[ay]at d
    cases h
    have o:n<2:=by simpa using d.2
    simp only[j];exact⟨⟨ak d.1.1,ak d.1.2⟩,⟨om,om⟩,l _ (by simp only[ER,eg];exact⟨b',m,rfl⟩)⟩
   .cases h
  .cases h
def GX(t:Nat)(x:XV)(f:Nat):Option XV:=match gL t f,x with
 | some (es',k),.ptr es b i=>match ap es' es with
  | true=>some (.ptr es b (i+k))
  | false=>ab
 | _,_=>ab
def Ky{φ:Ph}{t f:Nat}{x v:XV}{a:AV}{K:AV->Prop}(h:GX t x f=some v)(c:ER φ x a)(d:∀z,ER φ v z->K z):qG t a f K:=by
 unfold GX at h;split at h
 .rename_i es' k es b i e;simp only[ER]at c;obtain⟨b',g,rfl⟩:=c;split at h
  .rename_i j
   cases h
   unfold qG;simp only[e];exact⟨ak j,d _ (by simp only[ER];exact⟨b',g,rfl⟩)⟩
  .cases h
 .cases h
def ET(t:Nat)(x y:XV)(nx:Nat)(l:EL):XR:=match dY t,x,y with
 | some e,.int .i64 (.ofNat n),.int .i64 (.ofNat m)=>match zE e with
  | some (es,z)=>match ap n m&&ap es (cg e)&&jH n 4096 with
   | true=>uA nx l ⟨e,es,bZ n z⟩ (.sl es nx 0 n)
   | false=>ab
  | ab=>ab
 | _,_,_=>ab
def Mr{φ:Ph}{t nx:Nat}{x y:XV}{a c:AV}{l:EL}{S:St}{r:XV×Nat×EL}{K:AV->St->Prop}(h:ET t x y nx l=some r)(d:ER φ x a)(g:ER φ y c)(i:MR φ l S)(k:XK φ r.1 r.2.2 K):lJ t a c S K:=by
 unfold ET at h;split at h
 .rename_i e n m o;simp only[ER]at d g;subst d g;split at h
  .rename_i es z p;split at h
   .rename_i f;simp only[ay]at f;have q:=ak f.1.1;have s:=ak f.1.2;have B:=cE f.2;subst q;obtain⟨z',v,u,w⟩:=EO p;unfold lJ;simp only[o,u];refine⟨trivial,s,⟨cO n,by have:Int.ofNat n=(n:Int):=rfl;omega⟩,fun b A=>?_⟩
    refine qo h i (l0.of fun j x d=>?_) sm k A (.inr ⟨sm,sm⟩)
    have:=gN (fT d);subst this;exact w φ
   .cases h
  .cases h
 .cases h
def xlo:Option XV->Option Nat
 | ab=>some 0
 | some x=>Kv x
def xhi(len:Nat):Option XV->Option Nat
 | ab=>some len
 | some x=>Kv x
def xmx(len h:Nat)(hi:Option XV):Option XV->Bool
 | ab=>true
 | some x=>match Kv x with
  | some a=>jH h a&&jH a len&&hi.isSome
  | ab=>false
def tR(len:Nat)(lo hi mx:Option XV):Option (Nat×Nat):=match xlo lo,xhi len hi with
 | some a,some h=>match xmx len h hi mx&&jH a h&&jH h len with
  | true=>some (a,h)
  | false=>ab
 | _,_=>ab
def Ui(φ:Ph):Option XV->Option AV->Prop
 | ab,ab=>True
 | some x,some a=>ER φ x a
 | _,_=>False
def tg{φ:Ph}{len:Nat}{lo hi mx:Option XV}{lo' hi' mx':Option AV}{p:Nat×Nat}{K:Nat->Nat->Prop}(h:tR len lo hi mx=some p)(j:Ui φ lo lo')(e:Ui φ hi hi')(l:Ui φ mx mx')(q:p.1<=p.2->p.2<=len->K p.1 p.2):vj len lo' hi' mx' K:=by
 unfold tR at h;split at h
 .rename_i a b f g;split at h
  .rename_i i
   cases h
   simp only[ay]at i;have n:=cE i.1.2;have o:=cE i.2;refine⟨a,b,?_,?_,?_,n,o,q n o⟩
   .match lo,lo',j with
    | ab,ab,_=>simp only[xlo]at f;cases f;rfl
    | some x,some a',j =>
     simp only[xlo]at f;obtain⟨k,rfl⟩:=yw f j;rfl
   .match hi,hi',e with
    | ab,ab,_=>simp only[xhi]at g;cases g;rfl
    | some x,some a',e =>
     simp only[xhi]at g;obtain⟨k,rfl⟩:=yw g e;rfl
   .match mx,mx',l with
    | ab,ab,_=>trivial
    | some x,some a',l =>
     have d:=i.1.1;simp only[xmx]at d;split at d
     .rename_i c m;simp only[ay]at d;obtain⟨k,rfl⟩:=yw m l;have r:=cE d.1.1;have s:=cE d.1.2;refine⟨om,om,?_⟩
      match hi,hi',e,d.2 with
      | some _,some _,_,_=>rfl
     .cases d
  .cases h
 .cases h
def GS(t:Nat)(x:XV)(lo hi mx:Option XV):Option XV:=match dY t,x with
 | some e,.sl es b off len=>match ap es (cg e),tR len lo hi mx with
  | true,some (a,h)=>match ap a 0||aQ a h with
   | true=>some (.sl es b (off+a) (h-a))
   | false=>some (.lst es [])
  | _,_=>ab
 | some e,.lst es L=>match ap es (cg e),tR L.length lo hi mx with
  | true,some (a,h)=>some (.lst es ((L.drop a).take (h-a)))
  | _,_=>ab
 | some _,.nil=>match tR 0 lo hi mx with
  | some _=>some .nil
  | ab=>ab
 | _,_=>ab
def Kt{φ:Ph}{t:Nat}{x v:XV}{a:AV}{lo hi mx:Option XV}{lo' hi' mx':Option AV}{K:AV->Prop}(h:GS t x lo hi mx=some v)(c:ER φ x a)(m:Ui φ lo lo')(n:Ui φ hi hi')(o:Ui φ mx mx')(l:∀z,ER φ v z->K z):kG t a lo' hi' mx' K:=by
 unfold GS at h;unfold kG;split at h
 .rename_i e es b off len i;simp only[ER]at c;obtain⟨b',w,rfl⟩:=c;simp only[i];split at h
  .rename_i a d r k;refine⟨ak r,tg k m n o fun s u=>?_⟩;simp only
   cases f:(ap a 0||aQ a d)with
   | true =>
    rw[f]at h
    cases h
    have:a=0∨a<d:=by
     simp only[eX]at f;rcases f with q|q
     .exact .inl (ak q)
     .exact .inr (by simpa using q)
    rw[ah this];exact l _ (by simp only[ER];exact⟨b',w,rfl⟩)
   | false =>
    rw[f]at h
    cases h
    have:¬(a=0∨a<d):=by
     rintro (q|q)
     .subst q;simp at f
     .have y:aQ a d=true:=by simpa using q
      rw[y]at f;simp at f
    rw[af this];exact l _ (by simp only[ER];exact⟨_,rfl,by simp[l0]⟩)
  .cases h
 .rename_i e es L i;simp only[ER]at c;obtain⟨g,rfl,A⟩:=c;simp only[i];split at h
  .rename_i a d r k
   cases h
   refine⟨ak r,tg k m n o fun s u=>?_⟩;simp only at s u ⊢;refine l _ ?_;simp only[ER];have el:((L.drop a).take (d-a)).length=d-a:=by simp;omega
   refine⟨_,by rw[el],l0.of fun j x c=>?_⟩
   have B:j<d-a:=by
    rcases aF j (d-a)with q|q
    .exact q
    .rw[cK om]at c;cases c
   rw[fJ B,q9]at c;have:=A.get c;rw[az]at this ⊢;exact this
  .cases h
 .rename_i e i;simp only[ER]at c;subst c;simp only[i];split at h
  .rename_i p k
   cases h
   exact tg k m n o fun _ _=>l _ (by simp[ER])
  .cases h
 .cases h
def SK(t:Nat)(x:XV):Option XV:=match dY t,x with
 | some _,.sl _ _ _ len=>some (.int .i64 len)
 | some _,.lst _ L=>some (.int .i64 L.length)
 | some _,.nil=>some (.int .i64 0)
 | _,_=>ab
def Pg{φ:Ph}{t:Nat}{x v:XV}{a:AV}{K:AV->Prop}(h:SK t x=some v)(c:ER φ x a)(f:∀z,ER φ v z->K z):Eb t a K:=by
 unfold SK at h;unfold Eb;split at h
 .rename_i e es b off len d;simp only[ER]at c;obtain⟨b',i,rfl⟩:=c
  cases h;simp only[d];exact f _ (by simp[ER])
 .rename_i e es L d;simp only[ER]at c;obtain⟨g,rfl,j⟩:=c
  cases h;simp only[d];exact f _ (by simp[ER])
 .rename_i e d;simp only[ER]at c;subst c
  cases h;simp only[d];exact f _ (by simp[ER])
 .cases h
def Pk(l:EL):XV->Option (Nat×List XV×Option Nat)
 | .sl es i off len=>match eW l i with
  | some (some X)=>match ap X.es es&&jH (off+len) X.l.length with
   | true=>some (es,(X.l.drop off).take len,some i)
   | false=>ab
  | _=>ab
 | .lst es L=>some (es,L,ab)
 | _=>ab
def Jc{φ:Ph}{l:EL}{S:St}{x:XV}{a:AV}{es:Nat}{L:List XV}{o:Option Nat}(h:Pk l x=some (es,L,o))(c:ER φ x a)(m:MR φ l S):∃g o',Bj S a=some (es,L.length,g,o')/\l0 φ L g 0/\∀b,o'=some b->∃i X,o=some i/\φ i=some b/\eW l i=some (some X):=by
 unfold Pk at h;split at h
 .rename_i es' i off len;simp only[ER]at c;obtain⟨b,e,rfl⟩:=c;split at h
  .rename_i X f;obtain⟨b',g,k,n,p⟩:=m.live i X f;rw[e]at k;cases k;split at h
   .rename_i d;simp only[ay]at d;have r:=ak d.1;have s:=cE d.2
    cases h
    have el:((X.l.drop off).take len).length=len:=by simp;omega
    refine⟨_,_,by simp only[Bj,n,dJ];rw[ah ⟨r,s⟩,el],l0.of fun j x c=>?_,fun v d=>by cases d;exact⟨i,X,rfl,e,f⟩⟩
    have t:j<len:=by
     rcases aF j len with q|q
     .exact q
     .rw[cK om]at c;cases c
    rw[fJ t,q9]at c;have:=p.get c;rw[az]at this ⊢;exact this
   .cases h
  .cases h
 .rename_i es' L';simp only[ER]at c;obtain⟨g,rfl,u⟩:=c
  cases h
  exact⟨g,ab,rfl,u,fun b h=>by cases h⟩
 .cases h
def C0(t t':Nat)(s x:XV)(nx:Nat)(l:EL):XR:=match dY t,Pk l x with
 | some e,some (es,L,o)=>match ap t t'&&(zE e).isSome&&ap es (cg e)&&aQ 0 L.length&&ow es L&&jH L.length 1000 with
  | true=>match s with
   | .nil=>uA nx l ⟨e,es,L⟩ (.sl es nx 0 L.length)
   | .sl es' i off len=>match eW l i,eW l nx with
    | some (some X),ab=>match ap es' es&&ap off 0&&ap X.ty e&&ap X.es es&&ap X.l.length len&&jH len 1000&&(match o with
      | some j=>!ap j i
      | ab=>true)with
     | true=>some (.sl es nx 0 (len+L.length),nx+1,sU (sU l i ab) nx (some ⟨e,es,X.l++L⟩))
     | false=>ab
    | _,_=>ab
   | _=>ab
  | false=>ab
 | _,_=>ab
def G0{φ:Ph}{t t' nx:Nat}{s x:XV}{a c:AV}{l:EL}{S:St}{r:XV×Nat×EL}{K:AV->St->Prop}(h:C0 t t' s x nx l=some r)(n:ER φ s a)(d:ER φ x c)(f:MR φ l S)(M:XK φ r.1 r.2.2 K):gP t t' a c S K:=by
 unfold C0 at h;split at h
 .rename_i e es L o T k;obtain⟨g,o',U,z,V⟩:=Jc k d f;split at h
  .rename_i N;simp only[ay]at N;obtain⟨⟨⟨⟨⟨A,O⟩,B⟩,C⟩,W⟩,p6⟩:=N;have A:=ak A;have B:=ak B;have C:0<L.length:=by simpa using C
   have p6:=cE p6;have p:(gM e).isSome=true:=by
    cases p:zE e with
    | none=>rw[p]at O;cases O
    | some y =>
     obtain⟨a,v,Z,_⟩:=EO (t:=e) (es:=y.1) (x:=y.2) p;rw[Z];rfl
   unfold gP;simp only[T,U];refine⟨A,p,B,C,fun j u=>by have:=wF W z j u;rwa [az]at this,?_⟩
   split at h
   .simp only[ER]at n;subst n;exact⟨om,fun b m=>qo h f z rfl M m (.inr ⟨rfl,rfl⟩)⟩
   .rename_i es' i off len;simp only[ER]at n;obtain⟨b,m,rfl⟩:=n;split at h
    .rename_i X D E;obtain⟨b',g',P,e2,e3⟩:=f.live i X D;rw[m]at P;cases P;split at h
     .rename_i Q
      cases h
      simp only[ay]at Q;obtain⟨⟨⟨⟨⟨⟨F,G⟩,H⟩,I⟩,w⟩,R⟩,s7⟩:=Q;have F:=ak F;have G:=ak G;have H:=ak H;have I:=ak I;have w:=ak w;have R:=cE R;simp only[e2];refine⟨F,G,H,I,w,om,fun eo=>?_,fun b2 J=>?_⟩
      .obtain⟨j,Y,j1,j2,j3⟩:=V _ eo;subst j1;have:=f.inj j i Y X b j3 D j2 m;subst this;simp at s7
      .have hl:len+L.length=(X.l++L).length:=by simp;omega
       have hG:l0 φ (X.l++L) (nL g' len L.length g) 0:=l0.of fun j x d=>by
        rw[az];unfold nL;by_cases u:j<len
        .rw[eL om]at d;have:=e3.get d;rw[az]at this;split
         .simp only[bR];rw[af om];exact this
         .simp only[ah u];exact this
        .rw[ep om,w]at d;have:=z.get d;rw[az]at this;split
         .rename_i h1;have hj2:j-len<L.length:=by
           rcases aF (j-len) L.length with q|q
           .exact q
           .rw[cK q]at d;cases d
          simp only[bR];rw[ah om]
          rwa [(om:j-len=0)]at this
         .simp only[af u];exact this
       obtain⟨h5,h6⟩:=f.move D m E J (ty:=e) (es:=es) hG hl;refine M _ _ _ h5 ?_ h6;simp only[ER];exact⟨b2,by unfold Ph.set;rw[ah rfl],rfl⟩
     .cases h
    .cases h
   .cases h
  .cases h
 .cases h
def l0.app{φ:Ph}{A L:List XV}{g' g:Nat->AV}{len:Nat}(c:l0 φ A g' 0)(d:A.length=len)(e:l0 φ L g 0):l0 φ (A++L) (nL g' len L.length g) 0:=l0.of fun j x a=>by
 rw[az];unfold nL;by_cases b:j<len
 .rw[eL om]at a;have:=c.get a;rw[az]at this;split
  .simp only[bR];rw[af om];exact this
  .simp only[ah b];exact this
 .rw[ep om,d]at a;have:=e.get a;rw[az]at this;split
  .rename_i h;have f:j-len<L.length:=by
    rcases aF (j-len) L.length with q|q
    .exact q
    .rw[cK q]at a;cases a
   simp only[bR];rw[ah om]
   rwa [(om:j-len=0)]at this
  .simp only[af b];exact this
def zm(t:Nat)(s x:XV)(nx:Nat)(l:EL):XR:=match s,x with
 | .sl es i off len,.int _ (.ofNat m)=>(match dY t,eW l i,eW l nx with
  | some e,some (some X),ab=>(match zE e with
   | some (es',z)=>(match ap es' es&&ap es (cg e)&&ap off 0&&ap X.ty e&&ap X.es es&&ap X.l.length len&&jH 1 m&&jH (len+m) 1048576 with
    | true=>some (.sl es nx 0 (len+m),nx+1,sU (sU l i ab) nx (some ⟨e,es,X.l++bZ m z⟩))
    | false=>ab)
   | ab=>ab)
  | _,_,_=>ab)
 | _,_=>ab
def E4{φ:Ph}{t nx:Nat}{s x:XV}{a c:AV}{l:EL}{S:St}{r:XV×Nat×EL}{K:AV->St->Prop}(h:zm t s x nx l=some r)(p:ER φ s a)(q:ER φ x c)(u:MR φ l S)(E:XK φ r.1 r.2.2 K):oE t a c S K:=by
 unfold zm at h;split at h
 .rename_i es i off len k m;simp only[ER]at p q;obtain⟨b,w,rfl⟩:=p;subst q;split at h
  .rename_i e X F A f;obtain⟨b',g',B,G,H⟩:=u.live i X A;rw[w]at B;cases B;split at h
   .rename_i es' z I;obtain⟨av,v,J,z2⟩:=EO I;split at h
    .rename_i C
     cases h
     simp only[ay]at C;obtain⟨⟨⟨⟨⟨⟨⟨L,M⟩,N⟩,O⟩,g⟩,n⟩,P⟩,Q⟩:=C;unfold oE;simp only[F,G,J];have g:=ak g;refine⟨ak L,ak M,ak N,ak O,g,ak n,cE P,cE Q,fun R o=>?_⟩;have T:len+m=(X.l++bZ m z).length:=by
      have:=ak n;simp;omega
     have U:l0 φ (bZ m z) (fun _=>av) 0:=l0.of fun j y d=>by
      rw[tP]at d;split at d
      .cases d;exact z2 φ
      .cases d
     have D:=l0.app H (ak n) U;rw[lv]at D;obtain⟨V,W⟩:=u.move A w f o (ty:=e) (es:=es) D T;refine E _ _ _ V ?_ W;simp only[ER];exact⟨R,by unfold Ph.set;rw[ah rfl],rfl⟩
    .cases h
   .cases h
  .cases h
 .cases h
def Mx(t:Nat)(d s:XV)(l:EL):Option (XV×EL):=match dY t,d with
 | some e,.sl es i off len=>match eW l i,Pk l s with
  | some (some X),some (es',L,_)=>match ap es (cg e)&&ap es' es&&ap X.es es&&jH (off+len) X.l.length&&ap L.length len&&aQ 0 L.length&&ow es L with
   | true=>some (.int .i64 len,sU l i (some ⟨X.ty,X.es,xG X.l off L⟩))
   | false=>ab
  | _,_=>ab
 | _,_=>ab
def Mw{φ:Ph}{t:Nat}{d s v:XV}{a c:AV}{l l':EL}{S:St}{K:AV->St->Prop}(h:Mx t d s l=some (v,l'))(w:ER φ d a)(D:ER φ s c)(m:MR φ l S)(E:XK φ v l' K):sX t a c S K:=by
 unfold Mx at h;split at h
 .rename_i e es i off len F;simp only[ER]at w;obtain⟨b,y,rfl⟩:=w;split at h
  .rename_i X es' L o z f;obtain⟨g,o',G,A,N⟩:=Jc f D m;obtain⟨b',g',B,H,I⟩:=m.live i X z;rw[y]at B;cases B;split at h
   .rename_i C
    cases h
    simp only[ay]at C;obtain⟨⟨⟨⟨⟨⟨n,p⟩,q⟩,r⟩,u⟩,p6⟩,J⟩:=C;have n:=ak n;have p:=ak p;have q:=ak q;have r:=cE r;have u:=ak u;have p6:0<L.length:=by simpa using p6
    unfold sX;simp only[F,H,G];refine⟨n,p,q,r,u,p6,fun j M=>by have:=wF J A j M;rwa [az]at this,?_⟩
    refine E _ _ _ (Ph.le_refl _) (by simp[ER]) (m.put z y (l0.of fun j x k=>?_) (by simp[we]))
    rw[wg _ _ _ _ om]at k;simp only[az];by_cases e:off<=j/\j<off+L.length
    .rw[ah e]at k;rw[ah om];have:=A.get k
     rwa [az]at this
    .rw[af e]at k;rw[af om];have:=I.get k
     rwa [az]at this
   .cases h
  .cases h
 .cases h
def xint(k:IntKind)(op:BinOp)(a b:Int):Option XV:=match op with
 | .add=>some (.int k (k.wrap (a+b)))
 | .sub=>some (.int k (k.wrap (a-b)))
 | .mul=>some (.int k (k.wrap (a*b)))
 | .quo=>if b=0 then ab else some (.int k (k.wrap (a.tdiv b)))
 | .rem=>if b=0 then ab else some (.int k (a.tmod b))
 | .eql=>some (.bool (a==b))
 | .neq=>some (.bool (a != b))
 | .lss=>some (.bool (decide (a<b)))
 | .leq=>some (.bool (decide (a<=b)))
 | .gtr=>some (.bool (decide (b<a)))
 | .geq=>some (.bool (decide (b<=a)))
 | _=>ab
def SP(op:BinOp)(t:Nat)(x y:XV):Option XV:=match x,y with
 | .int k a,.int k' b=>if k=k' then xint k op a b else ab
 | .bool a,.bool b=>match ap t 4 with
  | true=>(match op with
   | .eql=>some (.bool (a==b))
   | .neq=>some (.bool (a != b))
   | _=>ab)
  | false=>ab
 | .sl _ _ _ _,.nil=>match op,ap t 29 with
  | .eql,true=>some (.bool false)
  | _,_=>ab
 | .lst _ L,.nil=>match op,ap t 29&&aQ 0 L.length with
  | .eql,true=>some (.bool false)
  | _,_=>ab
 | .nil,.nil=>match op,ap t 29 with
  | .eql,true=>some (.bool true)
  | _,_=>ab
 | _,_=>ab
def Pm{φ:Ph}{op:BinOp}{t:Nat}{x y v:XV}{a c:AV}{K:AV->Prop}(h:SP op t x y=some v)(d:ER φ x a)(e:ER φ y c)(i:∀z,ER φ v z->K z):Gk op t a c K:=by
 unfold SP at h;split at h
 .simp only[ER]at d e;subst d e;split at h
  .rename_i j;subst j;refine⟨rfl,?_⟩;unfold xint at h;split at h<;>first
    | cases h;done
    | (cases h;exact i _ (by simp[ER]))
    | (split at h
       .cases h
       .rename_i k;cases h;exact⟨k,i _ (by simp[ER])⟩)
  .cases h
 .simp only[ER]at d e;subst d e;split at h
  .rename_i f;refine⟨ak f,?_⟩;split at h<;>first
    | cases h;done
    | (cases h;exact i _ (by simp[ER]))
  .cases h
 .simp only[ER]at d e;obtain⟨b,_,rfl⟩:=d;subst e;split at h
  .rename_i f
   cases h
   exact⟨⟨ak f,rfl⟩,i _ (by simp[ER])⟩
  .cases h
 .simp only[ER]at d e;obtain⟨g,rfl,_⟩:=d;subst e;split at h
  .rename_i f
   cases h
   simp only[ay]at f;exact⟨⟨ak f.1,rfl,by simpa using f.2⟩,i _ (by simp[ER])⟩
  .cases h
 .simp only[ER]at d e;subst d e;split at h
  .rename_i f
   cases h
   exact⟨⟨ak f,rfl⟩,i _ (by simp[ER])⟩
  .cases h
 .cases h
end

noncomputable section
def xun(op:UnOp)(x:XV):Option XV:=match op,x with
 | .neg,.int k n=>some (.int k (k.wrap (0-n)))
 | .not,.bool b=>some (.bool (!b))
 | _,_=>ab
def SJ{φ:Ph}{op:UnOp}{x v:XV}{a:AV}{K:AV->Prop}(h:xun op x=some v)(b:ER φ x a)(c:∀z,ER φ v z->K z):Sc op a K:=by
 unfold xun at h;split at h
 .simp only[ER]at b;subst b;cases h;exact c _ (by simp[ER])
 .simp only[ER]at b;subst b;cases h;exact c _ (by simp[ER])
 .cases h
def Mz(s d:Nat)(x:XV):Option XV:=match uH d,x with
 | some k,.int _ n=>match Br s with
  | true=>some (.int k (k.wrap n))
  | false=>ab
 | _,_=>ab
def My{φ:Ph}{s d:Nat}{x v:XV}{a:AV}{K:AV->Prop}(h:Mz s d x=some v)(c:ER φ x a)(e:∀z,ER φ v z->K z):u9 s d a K:=by
 unfold Mz at h;split at h
 .rename_i k k' n b;simp only[ER]at c;subst c;split at h
  .rename_i f
   cases h
   unfold u9;simp only[b];exact⟨f,e _ (by simp[ER])⟩
  .cases h
 .cases h
def GY(t:Nat)(ps:List (Nat×XV)):Option XV:=match t,ps with
 | 50,[]=>some (.big 0)
 | 167,[(0,x),(1,y)]=>if oA 2 x&&oA 2 y then some (.agg [x,y])else ab
 | 195,[(0,x),(1,y)]=>if oA 2 x&&oA 2 y then some (.agg [x,y])else ab
 | 183,[(0,x),(1,y)]=>if oA 1 x&&oA 1 y then some (.agg [x,y])else ab
 | 218,[(0,x),(1,y)]=>if oA 1 x&&oA 1 y then some (.agg [x,y])else ab
 | 202,[(0,x),(1,y)]=>if oA 1 x&&oA 1 y then some (.agg [x,y])else ab
 | 160,[(0,x),(1,y)]=>if oA 1 x&&oA 1 y then some (.agg [x,y,.nil,.nfn])else ab
 | 238,[(0,x),(1,y),(2,z)]=>if oA 1 x&&oA 1 y&&oA 1 z then some (.agg [x,y,z])else ab
 | 197,[(0,x),(1,y),(2,z),(3,.agg [p,q]),(4,.agg [r,s])]=>if ow 2 [x,y,z,p,q,r,s]then some (.agg [x,y,z,p,q,r,s])else ab
 | _,_=>ab
def OQ(φ:Ph):List (Nat×XV)->List (Nat×AV)->Prop
 | [],[]=>True
 | p::l,q::r=>p.1=q.1/\ER φ p.2 q.2/\OQ φ l r
 | _,_=>False
def Kz{φ:Ph}{t:Nat}{ps:List (Nat×XV)}{qs:List (Nat×AV)}{v:XV}{K:AV->Prop}(h:GY t ps=some v)(f:OQ φ ps qs)(u:∀z,ER φ v z->K z):rR t qs K:=by
 have two:∀{x y:XV} {qs:List (Nat×AV)},OQ φ [(0,x),(1,y)] qs->∃a b,qs=[(0,a),(1,b)]/\ER φ x a/\ER φ y b:=by
  intro x y qs f
  match qs,f with
  | [(i,a),(j,b)],f =>
   simp only[OQ]at f;obtain⟨rfl,m,rfl,n,_⟩:=f;exact⟨a,b,rfl,m,n⟩
  | [],f=>exact f.elim
  | [_],f=>exact f.2.2.elim
  | _::_::_::_,f=>exact f.2.2.2.2.elim
 unfold GY at h;split at h
 .match qs,f with
  | [],_=>cases h;exact u _ (by simp[ER])
 all_goals first
  | (rename_i x y
     obtain⟨a,b,rfl,m,n⟩:=two f;split at h
     .rename_i l;simp only[ay]at l
      cases h
      refine⟨lR l.1 m,lR l.2 n,u _ ?_⟩;simp only[ER];refine⟨_,rfl,?_⟩;simp only[fO,ER];simp[m,n]
     .cases h)
  | (rename_i x y z
     split at h
     .rename_i l;simp only[ay]at l
      cases h
      match qs,f with
      | [(D,a),(E,b),(F,c)],f =>
       simp only[OQ]at f;obtain⟨rfl,m,rfl,n,rfl,w,_⟩:=f;refine⟨lR l.1.1 m,lR l.1.2 n,lR l.2 w,u _ ?_⟩;simp only[ER];refine⟨_,rfl,?_⟩;simp only[fO];exact⟨m,n,w,trivial⟩
      | [],f=>exact f.elim
      | [_],f=>exact f.2.2.elim
      | [_,_],f=>exact f.2.2.2.2.elim
      | _::_::_::_::_,f=>exact f.2.2.2.2.2.2.elim
     .cases h)
  | (rename_i x y z p q r s
     split at h
     .rename_i l
      cases h
      match qs,f with
      | [(D,a),(E,b),(F,c),(G,d),(H,e)],f =>
       simp only[OQ]at f;obtain⟨rfl,m,rfl,n,rfl,w,rfl,A,rfl,B,_⟩:=f;simp only[ER]at A B;obtain⟨R,rfl,g⟩:=A;obtain⟨R',rfl,k⟩:=B
       match R,R',g,k with
       | [p',q'],[r',s'],g,k =>
        simp only[fO]at g k;have C:fO φ [x,y,z,p,q,r,s] [a,b,c,p',q',r',s']:=by
         simp only[fO];exact⟨m,n,w,g.1,g.2.1,k.1,k.2.1,trivial⟩
        have o:=pN l C;refine⟨o _ sm,o _ sm,o _ sm,o _ sm,o _ sm,o _ sm,o _ sm,u _ ?_⟩
        simp only[ER];exact⟨_,rfl,C⟩
       | [],_,g,_=>simp[fO]at g
       | [_],_,g,_=>simp[fO]at g
       | _::_::_::_,_,g,_=>simp[fO]at g
       | [_,_],[],_,g=>simp[fO]at g
       | [_,_],[_],_,g=>simp[fO]at g
       | [_,_],_::_::_::_,_,g=>simp[fO]at g
      | [],f=>exact f.elim
      | [_],f=>exact f.2.2.elim
      | [_,_],f=>exact f.2.2.2.2.elim
      | [_,_,_],f=>exact f.2.2.2.2.2.2.elim
      | [_,_,_,_],f=>exact f.2.2.2.2.2.2.2.2.elim
      | _::_::_::_::_::_::_,f=>exact f.2.2.2.2.2.2.2.2.2.2.elim
     .cases h)
  | cases h
def rA:Nat->List (Nat×XV)->Bool
 | _,[]=>true
 | k,p::l=>ap p.1 k&&rA (k+1) l
theorem xL{φ:Ph}:∀{ps:List (Nat×XV)} {qs:List (Nat×AV)} {k:Nat},rA k ps=true->OQ φ ps qs->qs=fu k (qs.map (·.2))/\fO φ (ps.map (·.2)) (qs.map (·.2))/\qs.length=ps.length
 | [],[],k,_,_=>⟨rfl,by simp[fO],rfl⟩
 | p::l,q::r,k,h,b=>by
  simp only[rA,ay]at h;simp only[OQ]at b;obtain⟨c,d,f⟩:=xL h.2 b.2.2;have e:=ak h.1;refine⟨?_,by simp only[cU,fO];exact⟨b.2.1,d⟩,by simp[f]⟩
  simp only[cU,fu,jT];refine⟨?_,c⟩;obtain⟨i,a⟩:=q;simp only at b ⊢;rw[<-b.1,e]
 | [],_::_,_,_,b=>b.elim
 | _::_,[],_,_,b=>b.elim
def mO(t n:Nat)(ps:List (Nat×XV))(nx:Nat)(l:EL):XR:=match dY t with
 | some e=>match rA 0 ps&&ap ps.length n&&jH n 16&&(zE e).isSome&&ow (cg e) (ps.map (·.2))with
  | true=>uA nx l ⟨e,cg e,ps.map (·.2)⟩ (.sl (cg e) nx 0 n)
  | false=>ab
 | ab=>ab
def zk{φ:Ph}{t n nx:Nat}{ps:List (Nat×XV)}{qs:List (Nat×AV)}{l:EL}{S:St}{r:XV×Nat×EL}{K:AV->St->Prop}(h:mO t n ps nx l=some r)(d:OQ φ ps qs)(k:MR φ l S)(m:XK φ r.1 r.2.2 K):dR t n qs S K:=by
 unfold mO at h;split at h
 .rename_i e o;split at h
  .rename_i f;simp only[ay]at f;obtain⟨⟨⟨⟨q,g⟩,s⟩,i⟩,u⟩:=f;obtain⟨w,j,B⟩:=xL q d;have g:=ak g;have c:(gM e).isSome=true:=by
    cases c:zE e with
    | none=>rw[c]at i;cases i
    | some y =>
     obtain⟨a,v,z,_⟩:=EO (t:=e) (es:=y.1) (x:=y.2) c;rw[z];rfl
   unfold dR;simp only[o];refine⟨w,om,cE s,c,fun p d=>pN u j p.2 (List.mem_map_of_mem d),fun b A=>?_⟩
   exact qo h k j.toG (by simp;omega) m A (.inr ⟨rfl,rfl⟩)
  .cases h
 .cases h
def SL(t:Nat)(x i:XV):Option XV:=match x,i with
 | .agg [p,q],.int _ n=>if t=195/\(n=0∨n=1)then(if oA 2 p&&oA 2 q then some (if n=0 then p else q)else ab)else ab
 | .agg [p,q,r],.int _ (.ofNat n)=>(match ap t 238&&aQ n 3&&ow 1 [p,q,r]with
  | true=>[p,q,r][n]?
  | false=>ab)
 | _,_=>ab
def Pi{φ:Ph}{t:Nat}{x i v:XV}{a c:AV}{K:AV->Prop}(h:SL t x i=some v)(e:ER φ x a)(f:ER φ i c)(j:∀z,ER φ v z->K z):Ec t a c K:=by
 unfold SL at h;split at h
 .rename_i p q k n;simp only[ER]at e f;subst f;obtain⟨R,rfl,b⟩:=e;split at h
  .rename_i l;split at h
   .rename_i d;simp only[ay]at d
    cases h
    match R,b with
    | [p',q'],b =>
     simp only[fO]at b;refine bW ⟨l.1,p',q',rfl,lR d.1 b.1,lR d.2 b.2.1,l.2,j _ ?_⟩;split
     .exact b.1
     .exact b.2.1
    | [],b=>simp[fO]at b
    | [_],b=>simp[fO]at b
    | _::_::_::_,b=>simp[fO]at b
   .cases h
  .cases h
 .rename_i p q r k n;simp only[ER]at e f;subst f;obtain⟨R,rfl,b⟩:=e;split at h
  .rename_i d;simp only[ay,oZ]at d;obtain⟨⟨g,o⟩,s⟩:=d;have g:=ak g;obtain⟨a,u,w⟩:=b.get h;have m:=b.length;refine bQ ⟨bW ⟨g,m⟩,pN s b,⟨cO n,by rw[m];exact SA.2 o⟩,?_⟩
   have:R.getD (Int.toNat (Int.ofNat n)) .any=a:=by
    rw[io];show(R[n]?).getD .any=a;rw[u];rfl
   rw[this];exact j a w
  .cases h
 .cases h
def GP(φ:Ph):Prop:=φ 0=some 0
def GP.mono{φ ψ:Ph}(h:GP φ)(a:φ.le ψ):GP ψ:=a _ _ h
def nE(call:eP):Prop:=∀f args nx l r,call f args nx l=some r->∀φ as' S K,GP φ->fO φ args as'->MR φ l S->XK φ r.1 r.2.2 K ->
 ((11<=f/\f<270)/\f≠252/\f≠253)/\cZ f as' S K
def oc(b:Builtin)(args:List XV)(ts:List Nat)(nx:Nat)(l:EL):XR:=match b,args,ts with
 | .len,[x],[t]=>(SK t x).map fun v=>(v,nx,l)
 | .max,[.int k a,.int k' c],_=>if k=k' then some (.int k (if c > a then c else a),nx,l)else ab
 | .append,[s,x],[t,t']=>(match ap t' 3 with
  | true=>zm t s x nx l
  | false=>C0 t t' s x nx l)
 | .copy,[s,x],[t,_]=>(Mx t s x l).map fun p=>(p.1,nx,p.2)
 | _,_,_=>ab
def BX(call:eP)(o:Oper)(te:TE)(nx:Nat)(l:EL):XR:=match o.op with
 | .move x=>some (lr te x,nx,l)
 | .assign x=>some (lr te x,nx,l)
 | .pick c x y=>match lr te c with
  | .bool t=>some (if t then lr te x else lr te y,nx,l)
  | _=>ab
 | .alloc t=>zn t nx l
 | .box t x=>MB t (lr te x) nx l
 | .build t ps=>(GY t (ps.toList.map fun p=>(p.1,lr te p.2))).map fun v=>(v,nx,l)
 | .buildSlice t n ps=>mO t n (ps.toList.map fun p=>(p.1,lr te p.2)) nx l
 | .load t x=>(xt t (lr te x) l).map fun v=>(v,nx,l)
 | .store t x y=>(GR t (lr te x) (lr te y) l).map fun l'=>(.any,nx,l')
 | .nilCheck x=>match lr te x with
  | .ptr es b i=>some (.ptr es b i,nx,l)
  | .pat es y=>some (.pat es y,nx,l)
  | _=>ab
 | .binOp op t x y _=>(SP op t (lr te x) (lr te y)).map fun v=>(v,nx,l)
 | .unOp op _ x=>(xun op (lr te x)).map fun v=>(v,nx,l)
 | .convert s d x=>(Mz s d (lr te x)).map fun v=>(v,nx,l)
 | .makeFunc (.func f) fi cs=>match fi.toList,cs.toList with
  | [],L=>some (.fn f (L.map (lr te)),nx,l)
  | x::L,[]=>some (.mfn f ((x::L).map (lr te)),nx,l)
  | _,_=>ab
 | .makeSlice t x y=>ET t (lr te x) (lr te y) nx l
 | .slice t x lo hi mx=>(GS t (lr te x) (lo.map (lr te)) (hi.map (lr te)) (mx.map (lr te))).map fun v=>(v,nx,l)
 | .fieldAddr t x f=>(GX t (lr te x) f).map fun v=>(v,nx,l)
 | .indexAddr t x i=>(GW t (lr te x) (lr te i)).map fun v=>(v,nx,l)
 | .index t x i=>(SL t (lr te x) (lr te i)).map fun v=>(v,nx,l)
 | .extract x i=>match lr te x with
  | .tup L=>(L[i]?).map fun v=>(v,nx,l)
  | _=>ab
 | .call c=>match c.callee with
  | .value f=>match lr te f with
   | .fn g cs=>call g (c.args.toList.map (lr te)++cs) nx l
   | .mfn g cs=>call g (cs++c.args.toList.map (lr te)) nx l
   | _=>ab
  | .builtin b=>oc b (c.args.toList.map (lr te)) c.argTypes.toList nx l
  | _=>ab
 | _=>ab
def TR.evP{φ:Ph}{te:TE}{O:Tm}(h:TR φ te O):∀ps:List (Nat×Operand),OQ φ (ps.map fun p=>(p.1,lr te p.2)) (ps.map fun p=>(p.1,Go.Proofs.YtdobfmlmenaajaaGreatDoor.ev O p.2))
 | []=>trivial
 | p::ps=>by simp only[cU,OQ];exact⟨trivial,h.ev p.2,h.evP ps⟩
def TR.evO{φ:Ph}{te:TE}{O:Tm}(h:TR φ te O)(x:Option Operand):Ui φ (x.map (lr te)) (x.map (Go.Proofs.YtdobfmlmenaajaaGreatDoor.ev O)):=by
 cases x with
 | none=>trivial
 | some x=>exact h.ev x
def CZ{call:eP}(U:nE call){o:Oper}{te:TE}{nx:Nat}{l:EL}{r:XV×Nat×EL}(h:BX call o te nx l=some r){φ:Ph}(V:GP φ){O:Tm}{S:St}(m:TR φ te O)(A:MR φ l S){K:AV->St->Prop}(B:XK φ r.1 r.2.2 K):AP o O S K:=by
 have pure_:∀(p:Option XV),p.map (fun v=>(v,nx,l))=some r->∃v,p=some v/\∀z,ER φ v z->K z S:=by
  intro p W;obtain⟨v,rfl,X⟩:=cW.1 W;subst X;exact⟨v,rfl,fun z Y=>B φ z S (Ph.le_refl _) Y A⟩
 unfold BX at h;unfold AP;split at h
 .rename_i x q;simp only[q];cases h;exact B _ _ _ (Ph.le_refl _) (m.ev x) A
 .rename_i x q;simp only[q];cases h;exact B _ _ _ (Ph.le_refl _) (m.ev x) A
 .rename_i c x y q;simp only[q];split at h
  .rename_i t I
   cases h
   have:=m.ev c;rw[I]at this;simp only[ER]at this;simp only[this];refine B _ _ _ (Ph.le_refl _) ?_ A
   cases t
   .exact m.ev y
   .exact m.ev x
  .cases h
 .rename_i t q;simp only[q];exact KA h A B
 .rename_i t x q;simp only[q];exact Pl h (m.ev x) A B
 .rename_i t ps q;simp only[q];obtain⟨v,u,w⟩:=pure_ _ h;exact Kz u (m.evP ps.toList) w
 .rename_i t n ps q;simp only[q];exact zk h (m.evP ps.toList) A B
 .rename_i t x q;simp only[q];obtain⟨v,u,w⟩:=pure_ _ h;exact EX u (m.ev x) A w
 .rename_i t x y q;simp only[q];obtain⟨l',u,w⟩:=cW.1 h;subst w;exact Ks u (m.ev x) (m.ev y) A fun S' Z=>B _ _ _ (Ph.le_refl _) (by simp[ER]) Z
 .rename_i x q;simp only[q];have j:=m.ev x;split at h
  .rename_i es b i D
   cases h
   rw[D]at j;simp only[ER]at j;obtain⟨b',J,e⟩:=j;simp only[e];exact B _ _ _ (Ph.le_refl _) (by simp only[ER];exact⟨b',J,rfl⟩) A
  .rename_i es y D
   cases h
   rw[D]at j;simp only[ER]at j;obtain⟨y',e,hy⟩:=j;simp only[e];exact B _ _ _ (Ph.le_refl _) (by simp only[ER];exact⟨y',rfl,hy⟩) A
  .cases h
 .rename_i op t x y _ q;simp only[q];obtain⟨v,u,w⟩:=pure_ _ h;exact Pm u (m.ev x) (m.ev y) w
 .rename_i op t x q;simp only[q];obtain⟨v,u,w⟩:=pure_ _ h;exact SJ u (m.ev x) w
 .rename_i s d x q;simp only[q];obtain⟨v,u,w⟩:=pure_ _ h;exact My u (m.ev x) w
 .rename_i f fi cs q;simp only[q];split at h
  .rename_i F
   cases h
   simp only[F,l5,tI];exact B _ _ _ (Ph.le_refl _) (by simp only[ER];exact⟨_,rfl,m.evL cs.toList⟩) A
  .rename_i x L F M
   cases h
   simp only[F,M,l5,cU,tI];exact⟨trivial,B _ _ _ (Ph.le_refl _) (by simp only[ER];exact⟨_,rfl,m.evL (x::L)⟩) A⟩
  .cases h
 .rename_i t x y q;simp only[q];exact Mr h (m.ev x) (m.ev y) A B
 .rename_i t x lo hi mx q;simp only[q];obtain⟨v,u,w⟩:=pure_ _ h;exact Kt u (m.ev x) (m.evO lo) (m.evO hi) (m.evO mx) w
 .rename_i t x f q;simp only[q];obtain⟨v,u,w⟩:=pure_ _ h;exact Ky u (m.ev x) w
 .rename_i t x i q;simp only[q];obtain⟨v,u,w⟩:=pure_ _ h;exact Kx u (m.ev x) (m.ev i) w
 .rename_i t x i q;simp only[q];obtain⟨v,u,w⟩:=pure_ _ h;exact Pi u (m.ev x) (m.ev i) w
 .rename_i x i q;simp only[q];have j:=m.ev x;split at h
  .rename_i L D;obtain⟨v,u,w⟩:=pure_ _ h;rw[D]at j;simp only[ER]at j;obtain⟨R,e,H⟩:=j;obtain⟨a,h3,h4⟩:=H.get u;simp only[e,h3];exact w a h4
  .cases h
 .rename_i c q;simp only[q];unfold ve;split at h
  .rename_i f hf;simp only[hf];have j:=m.ev f;split at h
   .rename_i g cs G;rw[G]at j;simp only[ER]at j;obtain⟨R,e,H⟩:=j;simp only[e];exact U _ _ _ _ _ h φ _ S K V ((m.evL _).append H) A B
   .rename_i g cs G;rw[G]at j;simp only[ER]at j;obtain⟨R,e,H⟩:=j;simp only[e];exact U _ _ _ _ _ h φ _ S K V (H.append (m.evL _)) A B
   .cases h
  .rename_i b J;simp only[J];unfold oc at h;have hL:=m.evL c.args.toList;split at h
   .rename_i x t j E;rw[j]at hL;obtain⟨v,u,w⟩:=pure_ _ h
    cases C:c.args.toList with
    | nil=>rw[C]at j;simp at j
    | cons y r =>
     cases r with
     | cons _ _=>rw[C]at j;simp at j
     | nil =>
      rw[C]at j;simp only[cU,l5,jT,yQ]at j;rw[<-j]at u;simp only[E];exact Pg u (m.ev y) w
   .rename_i k a k' d j;split at h
    .rename_i N;subst N
     cases h
     cases C:c.args.toList with
     | nil=>rw[C]at j;simp at j
     | cons y r =>
      cases r with
      | nil=>rw[C]at j;simp at j
      | cons y' r =>
       cases r with
       | cons _ _=>rw[C]at j;simp at j
       | nil =>
        rw[C]at j;simp only[cU,l5,jT,yQ]at j;have P:=m.ev y;have Q:=m.ev y';rw[j.1]at P;rw[j.2]at Q;simp only[ER]at P Q;simp only[P,Q,OB];exact⟨trivial,B _ _ _ (Ph.le_refl _) (by simp[ER]) A⟩
    .cases h
   .rename_i s x t t' j E
    cases C:c.args.toList with
    | nil=>rw[C]at j;simp at j
    | cons y r =>
     cases r with
     | nil=>rw[C]at j;simp at j
     | cons y' r =>
      cases r with
      | cons _ _=>rw[C]at j;simp at j
      | nil =>
       rw[C]at j;simp only[cU,l5,jT,yQ]at j;rw[<-j.1,<-j.2]at h;simp only[E];split at h
       .rename_i T;rw[ah (ak T)];exact E4 h (m.ev y) (m.ev y') A B
       .rename_i T;rw[af (fun e=>by subst e;simp at T)]
        exact G0 h (m.ev y) (m.ev y') A B
   .rename_i s x t t' j E;obtain⟨p,u,w⟩:=cW.1 h;subst w
    cases C:c.args.toList with
    | nil=>rw[C]at j;simp at j
    | cons y r =>
     cases r with
     | nil=>rw[C]at j;simp at j
     | cons y' r =>
      cases r with
      | cons _ _=>rw[C]at j;simp at j
      | nil =>
       rw[C]at j;simp only[cU,l5,jT,yQ]at j;rw[<-j.1,<-j.2]at u;simp only[E];exact Mw u (m.ev y) (m.ev y') A B
   .cases h
  .cases h
 .cases h
end

end Go.Proofs.YtdobfmlmenaajaaGreatDoor
