/-
  Lemmas for NeighbourKeeps.
-/
import Derived.Test.YtdobfmlmenaajaaGreatDoorL13
namespace Go.Proofs.YtdobfmlmenaajaaGreatDoor
open Go.RowKit Tryz
open _root_.Classical renaming choose_spec→ef,choose→gR
open _root_.Int renaming le_of_lt→aS,mul_comm→bZ,eq_of_mul_eq_mul_left→cB,dvd_mul_of_dvd_right→cP,natCast_nonneg→di,mul_nonneg→dA,natAbs_mul→eG,pow_succ→eO,mul_assoc→eY,mul_eq_zero→gK,dvd_mul_of_dvd_left→im,dvd_add→jk,dvd_refl→jV,natCast_add→kh,zero_mul→lc,mul_zero→ld,dvd_zero→lg,mul_neg→oL
open _root_.List renaming range→dY
open _root_.Nat renaming le_refl→af,mul_comm→av,mul_le_mul_right→ay,lt_or_ge→az,mul_le_mul_left→aQ,mul_assoc→aZ,eq_zero_or_pos→bC,mul_le_mul→bK,pow_succ→bM,mul_add→bU,succ_mul→ck,add_zero→cn,mod_lt→dp,div_add_mod→dz,add_mul→dO,mod_eq_of_lt→eh,div_eq_of_lt→ei,add_sub_cancel→fO,one_mul→jR,mul_add_div→kg,mul_add_mod→mb,pos_of_ne_zero→ml,zero_mul→ug
open _root_.Ne renaming symm→ai
set_option maxHeartbeats 6400000
set_option maxRecDepth 4096
set_option linter.all false
variable{a b h na p z:Int}{f:Int->Int}{B N R U V X car g i j k m n piv r u0 u1 u2 ul v0 v1 vl x0 y0:Nat}{M c d e x:Nat->Int}{q q' r' u v σ:Nat->Nat}{A H w:aB}{L L':ik->Prop}
theorem ky(n:Nat)(f:Nat->Int):aq (n+1) f=f 0+aq n (fun j=>f (j+1)):=by
 induction n with
 | zero=>simp[aq]
 | succ n ih=>rw[aq,ih];simp only[aq];omega
theorem jl{f:Nat->Int}(a:∀i,i<n->h∣f i):h∣aq n f:=by
 induction n with
 | zero=>exact lg _
 | succ n ih=>simp only[aq];exact jk (ih fun i b=>a i om) (a n om)
theorem kw(n:Nat)(f g:Nat->Int):aq n (fun i=>f i-g i)=aq n f-aq n g:=by
 induction n with
 | zero=>rfl
 | succ n ih=>simp only[aq];rw[ih];omega
theorem tK(n:Nat)(f:Nat->Int):aq n (fun i=>- f i)=- aq n f:=by
 induction n with
 | zero=>rfl
 | succ n ih=>simp only[aq];rw[ih];omega
theorem B4(n:Nat)(c:Int):aq n (fun _=>c)=n*c:=by
 induction n with
 | zero=>simp[aq]
 | succ n ih=>simp only[aq];rw[ih];grind
def mh(d:Nat)(c:Nat->Int)(x:Int):Int:=aq d (fun i=>c i*x^i)
theorem Ff{d:Nat}(h:∀i,d<=i->c i=0)(a:d<=N)(x:Int):mh N c x=mh d c x:=by
 induction N with
 | zero=>rw[(om:d=0)]
 | succ N ih =>
  by_cases e:d=N+1
  ·rw[e]
  ·simp only[mh,aq];rw[h N om];simp only[mh]at ih;rw[ih om];omega
theorem qH(d:Nat)(c:Nat->Int)(x:Int):mh (d+1) c x=c 0+x*mh d (fun i=>c (i+1)) x:=by
 simp only[mh];rw[ky,<-cO];congr 1
 ·simp
 ·exact aA fun i _=>by rw[eO];grind
theorem rf:∀(d:Nat) (c:Nat->Int),(∀x:Int,1<=x->mh d c x=0)->∀i,i<d->c i=0
 | 0,_,_,_,b=>om
 | d+1,c,h,i,b=>by
  have f:c 0=0:=by
   have a:=h ((c 0).natAbs+1) om;rw[qH]at a;have g:(((c 0).natAbs:Int)+1)∣c 0:=⟨- mh d (fun i=>c (i+1)) ((c 0).natAbs+1),by rw[oL];omega⟩
   have j:=Int.natAbs_dvd_natAbs.2 g;rcases bC (c 0).natAbs with e|e
   ·omega
   ·have l:=Nat.le_of_dvd e j;omega
  have a:∀x:Int,1<=x->mh d (fun i=>c (i+1)) x=0:=by
   intro x k;have a:=h x k;rw[qH,f,Int.zero_add]at a;rcases gK.1 a with e|e
   ·omega
   ·exact e
  match i,b with
  | 0,_=>exact f
  | i+1,b=>exact rf d (fun i=>c (i+1)) a i om
theorem Fc(d:Nat)(c e:Nat->Int)(x:Int):mh d (fun i=>c i-e i) x=mh d c x-mh d e x:=by
 simp only[mh];rw[<-kw];exact aA fun i _=>by rw[Int.sub_mul]
theorem JU(d:Nat)(c e:Nat->Int)(x:Int):mh d (fun i=>c i+e i) x=mh d c x+mh d e x:=by
 simp only[mh];rw[<-dI];exact aA fun i _=>by rw[Int.add_mul]
theorem Fe(d:Nat)(a:Int)(c:Nat->Int)(x:Int):mh d (fun i=>a*c i) x=a*mh d c x:=by
 simp only[mh];rw[<-cO];exact aA fun i _=>by rw[eY]
theorem Cl{d:Nat}(h:∀x,mh d c x=mh d e x){i:Nat}(a:i<d):c i=e i:=by
 have:=rf d (fun i=>c i-e i) (fun x _=>by rw[Fc,h x];omega) i a
 omega
theorem Fb(d n:Nat)(c:Nat->Nat->Int)(x:Int):mh d (fun i=>aq n (fun j=>c j i)) x=aq n (fun j=>mh d (c j) x):=by
 simp only[mh];rw[oP];refine aA fun i _=>?_;rw[bZ,<-cO];exact aA fun j _=>by rw[bZ]
def Np(c:Nat->Int):Nat->Int
 | 0=>0
 | i+1=>c i
theorem Fd(d:Nat)(c:Nat->Int)(x:Int):mh (d+1) (Np c) x=x*mh d c x:=by
 rw[qH];show 0+x*mh d c x=_;omega
def q8(d:Nat)(f:Int->Int):Prop:=∃c:Nat->Int,(∀i,d<=i->c i=0)/\∀x,f x=mh d c x
theorem q8.mono{d e:Nat}(h:q8 d f)(b:d<=e):q8 e f:=by
 obtain⟨c,a,g⟩:=h;exact⟨c,fun i j=>a i om,fun x=>by rw[g x,Ff a b]⟩
theorem q8.add{d:Nat}{g:Int->Int}(h:q8 d f)(k:q8 d g):q8 d (fun x=>f x+g x):=by
 obtain⟨c,b,j⟩:=h;obtain⟨e,l,m⟩:=k;exact⟨fun i=>c i+e i,fun i a=>by simp only;rw[b i a,l i a];rfl,fun x=>by rw[JU,<-j x,<-m x]⟩
theorem q8.smul{d:Nat}(h:q8 d f)(a:Int):q8 d (fun x=>a*f x):=by
 obtain⟨c,b,e⟩:=h;exact⟨fun i=>a*c i,fun i g=>by simp only;rw[b i g,ld],fun x=>by rw[Fe,<-e x]⟩
theorem q8.xmul{d:Nat}(h:q8 d f):q8 (d+1) (fun x=>x*f x):=by
 obtain⟨c,b,e⟩:=h;refine⟨Np c,fun i a=>?_,fun x=>by rw[Fd,<-e x]⟩
 match i,a with
 | i+1,a=>exact b i om
theorem q8.zero(d:Nat):q8 d (fun _=>0):=⟨fun _=>0,fun _ _=>rfl,fun x=>by
 simp only[mh];rw[iC];intro i _;rw[lc]⟩
theorem q8.sum{d:Nat}:∀{n:Nat} {f:Nat->Int->Int},(∀j,j<n->q8 d (f j))->q8 d (fun x=>aq n (fun j=>f j x))
 | 0,_,_=>by simp only[aq];exact q8.zero d
 | n+1,f,h=>by simp only[aq];exact(q8.sum fun j a=>h j om).add (h n om)
theorem q8.congr{d:Nat}{g:Int->Int}(h:q8 d f)(e:∀x,g x=f x):q8 d g:=by
 obtain⟨c,a,b⟩:=h;exact⟨c,a,fun x=>(e x).trans (b x)⟩
theorem q8.lin{d:Nat}(h:q8 d f)(a b:Int):q8 (d+1) (fun x=>(a+b*x)*f x) :=
 (((h.smul a).mono om).add (h.xmul.smul b)).congr fun x=>by grind
def Jo:Nat->(Nat->Bool)->Nat
 | 0,_=>0
 | n+1,R=>(if R 0 then 0 else 1)+Jo n (fun i=>R (i+1))
theorem Bj:∀(n:Nat) (R:Nat->Bool) (a b:aB),(∀i,R i=true->∀j,b i j=0)->q8 (1+Jo n R) (fun x=>det n (fun i j=>a i j+b i j*x))
 | 0,R,a,b,_=>⟨fun i=>if i=0 then 1 else 0,fun i c=>by simp only[Jo]at c;exact if_neg om,fun x=>by simp[det,Jo,mh,aq]⟩
 | n+1,R,a,b,h=>by
  simp only[det,Jo];refine q8.sum fun j _=>?_;have ih:=Bj n (fun i=>R (i+1)) (cut a j) (cut b j) (fun i c k=>h (i+1) c _);have e:∀x:Int,cut (fun i j=>a i j+b i j*x) j=fun i k=>cut a j i k+cut b j i k*x:=fun x=>rfl
  cases d:R 0 with
  | true =>
   refine((ih.smul (uE j*a 0 j)).congr fun x=>?_).mono sm
   rw[e x,h 0 d j];grind
  | false =>
   refine((ih.lin (uE j*a 0 j) (uE j*b 0 j)).congr fun x=>?_).mono (by simp;omega)
   rw[e x];grind
theorem Fu:∀(n:Nat) (R:Nat->Bool),Jo n R<=n
 | 0,_=>af _
 | n+1,R=>by have:=Fu n (fun i=>R (i+1));simp only[Jo];split<;>omega
theorem Bf:∀(n:Nat) (R:Nat->Bool) (i:Nat),i<n->R i=true->Jo n R+1<=n
 | n+1,R,0,_,h=>by have:=Fu n (fun i=>R (i+1));simp only[Jo,h,if_true];omega
 | n+1,R,i+1,a,h=>by have:=Bf n (fun i=>R (i+1)) i om h;simp only[Jo];split<;>omega
def cm(M:aB)(x:Int):aB:=fun i j=>- M i j+(if i=j then 1 else 0)*x
theorem CS:∀(n:Nat) (M:aB),q8 n (fun x=>det n (cm M x)-x^n)
 | 0,M=>⟨fun _=>0,fun _ _=>rfl,fun x=>by simp[det,mh,aq]⟩
 | n+1,M=>by
  have ih:=CS n (fun i j=>M (i+1) (j+1));have c:q8 (n+1) (fun x=>x^n):=⟨fun i=>if i=n then 1 else 0,fun i a=>if_neg om,fun x=>by
   simp only[mh];rw[cp n om (fun i _ a=>by rw[if_neg a,lc])];simp⟩
  have b:∀j,j<n->q8 (n+1) (fun x=>uE (j+1)*cm M x 0 (j+1)*det n (cut (cm M x) (j+1))):=by
   intro j b;have d:=Bj n (fun i=>decide (i=j)) (cut (fun i j=>- M i j) (j+1)) (cut (fun i j=>if i=j then 1 else 0) (j+1)) (fun i a k=>by
    simp only[decide_eq_true_eq]at a;subst a;simp only[cut];exact if_neg (by unfold skip;split<;>omega))
   have l:=Bf n (fun i=>decide (i=j)) j b sm
   refine((d.smul (uE (j+1)*- M 0 (j+1))).mono om).congr fun x=>?_;have e:cm M x 0 (j+1)=- M 0 (j+1):=by simp[cm]
   rw[e];rfl
  have f:=q8.sum b;refine(((ih.lin (- M 0 0) 1).add (c.smul (- M 0 0))).add f).congr fun x=>?_;simp only[det];rw[ky];have g:cut (cm M x) 0=cm (fun i j=>M (i+1) (j+1)) x:=by
   funext i k;simp[cut,cm,skip]
  have h:cm M x 0 0=- M 0 0+x:=by simp[cm]
  rw[g,h,wK,eO]
  grind
theorem MB(M:aB){i:Nat}(d:i<n)(j:Nat):q8 n (fun x=>o6 n (cm M x) i j):=by
 have f:=Bj n (fun k=>decide (k=i)) (setRow (fun i j=>- M i j) i (dC j)) (fun a b=>if a=i then 0 else if a=b then 1 else 0) (fun k c b=>by
  simp only[decide_eq_true_eq]at c;simp[c])
 have g:=Bf n (fun k=>decide (k=i)) i d sm
 refine(f.mono om).congr fun x=>?_;unfold o6;congr 1;funext a b;simp only[setRow,cm];by_cases e:a=i
 ·simp[e]
 ·simp[e]
theorem sP{h:Int}:∀(n:Nat) (B C:aB),(∀i j,h∣B i j-C i j)->h∣det n B-det n C
 | 0,_,_,_=>by simp[det]
 | n+1,B,C,a=>by
  simp only[det];rw[<-kw];refine jl fun j _=>?_;obtain⟨u,d⟩:=sP n (cut B j) (cut C j) (fun i k=>a _ _);obtain⟨v,e⟩:=a 0 j;refine⟨uE j*(B 0 j*u+v*det n (cut C j)),?_⟩;have b:det n (cut B j)=det n (cut C j)+h*u:=om
  have c:B 0 j=C 0 j+h*v:=om
  rw[b,c];grind
def dg(A:aB)(h:Int)(m:Nat):aB:=fun i j=>A i j+(if i<m/\i=j then h else 0)
theorem IH(n:Nat)(A:aB)(h:Int):∀m,m<=n->h*h∣det n (dg A h m)-det n A-h*aq m (fun i=>o6 n A i i)
 | 0,_=>by
  have:dg A h 0=A:=by funext i j;simp[dg]
  rw[this];simp[aq]
 | m+1,d=>by
  obtain⟨q,f⟩:=IH n A h m om;have b:dg A h (m+1)=setRow (dg A h m) m (fun j=>dg A h m m j+h*dC m j):=by
   funext i j;simp only[dg,setRow,dC];by_cases e:i=m
   ·subst e;by_cases a:i=j
    ·subst a;simp
    ·simp[a,ai a]
   ·simp only[e,if_false];congr 1;by_cases a:i<m
    ·simp[a,(om:i<m+1)]
    ·simp[a,(om:¬i<m+1)]
  have a:det n (dg A h (m+1))=det n (dg A h m)+h*o6 n (dg A h m) m m:=by
   rw[b,jB _ om,pV _ om,iS];rfl
  obtain⟨u,g⟩:=sP (h:=h) n (setRow (dg A h m) m (dC m)) (setRow A m (dC m)) (fun i j=>by
   simp only[setRow,dg];split
   ·simp
   ·split
    ·exact⟨1,om⟩
    ·exact⟨0,om⟩)
  refine⟨q+u,?_⟩;have c:o6 n (dg A h m) m m=o6 n A m m+h*u:=by unfold o6;omega
  rw[a,c];simp only[aq];have:det n (dg A h m)=det n A+h*aq m (fun i=>o6 n A i i)+h*h*q:=om
  rw[this];grind
theorem E5(x h:Int):∀i:Nat,h*h∣(x+h)^i-x^i-h*(i*x^(i-1))
 | 0=>by simp
 | i+1=>by
  obtain⟨q,a⟩:=E5 x h i;refine⟨(x+h)*q+i*x^(i-1),?_⟩;have e:(x+h)^i=x^i+h*(i*x^(i-1))+h*h*q:=om
  rw[eO,e,eO];have b:(i:Int)*x^i=i*x^(i-1)*x:=by
   match i with
   | 0=>simp
   | i+1=>simp only[fO];rw[eO,eY]
  simp only[fO,kh,Int.natCast_one]
  grind
def Ny(c:Nat->Int):Nat->Int:=fun i=>(i+1)*c (i+1)
theorem JT(d:Nat)(c:Nat->Int)(x h:Int):h*h∣mh (d+1) c (x+h)-mh (d+1) c x-h*mh d (Ny c) x:=by
 have e:mh d (Ny c) x=aq (d+1) (fun i=>c i*(i*x^(i-1))):=by
  rw[ky];simp only[mh,Ny];rw[show c 0*(((0:Nat):Int)*x^(0-1))=0 by simp,Int.zero_add]
  refine aA fun i _=>?_;simp only[fO,kh,Int.natCast_one];grind
 rw[e,<-cO];simp only[mh];rw[<-kw,<-kw];refine jl fun i _=>?_;obtain⟨q,a⟩:=E5 x h i;exact⟨c i*q,by
  have e:(x+h)^i=x^i+h*(i*x^(i-1))+h*h*q:=om
  rw[e];grind⟩
theorem KH(h:∀k:Int,1<=k->k∣z):z=0:=by
 have a:=Int.natAbs_dvd_natAbs.2 (h (z.natAbs+1) om);rcases bC z.natAbs with e|e
 ·omega
 ·have b:=Nat.le_of_dvd e a;omega
def mm(n:Nat)(A B:aB):aB:=fun i j=>aq n (fun k=>A i k*B k j)
def tr(n:Nat)(A:aB):Int:=aq n (fun i=>A i i)
def pT(n:Nat)(M:aB):Nat->aB
 | 0=>fun i j=>if i=j then 1 else 0
 | k+1=>fun i j=>mm n M (pT n M k) i j+(if i=j then tr n (mm n M (pT n M k))/(-((k+1:Nat):Int))else 0)
theorem Kl(B:1<=n)(M:aB):∃(a:Nat->Nat->Nat->Int) (χ:Nat->Int),χ n=1/\(∀i j,i<n->j<n->a i j n=0)
 /\(∀i r k,i<n->r<n->k<=n->Np (a i r) k-aq n (fun j=>M r j*a i j k)=if i=r then χ k else 0)
 /\(∀k,k<n->aq n (fun i=>a i i k)=(k+1)*χ (k+1))
 /\(∀i j,i<n->j<n->a i j 0=o6 n (cm M 0) i j):=by
 have p:∀i j,∃c:Nat->Int,i<n->((∀k,n<=k->c k=0)/\∀x,o6 n (cm M x) i j=mh n c x):=fun i j=>by
  by_cases b:i<n
  ·obtain⟨c,h⟩:=MB M b j;exact⟨c,fun _=>h⟩
  ·exact⟨fun _=>0,fun h=>absurd h b⟩
 obtain⟨a,d⟩:∃a:Nat->Nat->Nat->Int,∀i j,i<n->((∀k,n<=k->a i j k=0)/\∀x,o6 n (cm M x) i j=mh n (a i j) x) :=
  ⟨fun i j=>(p i j).choose,fun i j=>(p i j).choose_spec⟩
 obtain⟨e,t,o⟩:=CS n M;have hχ:∀x,det n (cm M x)=mh (n+1) (fun k=>if k=n then 1 else e k) x:=by
  intro x;have f:=o x;simp only[mh,aq]at f ⊢;rw[aA (g:=fun i=>e i*x^i) (fun i b=>by rw[if_neg om]),<-f];simp
 refine⟨a,fun k=>if k=n then 1 else e k,sm,fun i j b _=>(d i j b).1 n (af _),fun i r k b q s=>?_,fun k s=>?_,fun i j b l=>?_⟩
 ·have key:∀x,mh (n+1) (fun k=>Np (a i r) k-aq n (fun j=>M r j*a i j k)) x=mh (n+1) (fun k=>if i=r then(if k=n then 1 else e k)else 0) x:=by
   intro x;have f:=sC (cm M x) b q;rw[Fc,Fd,Fb (n+1) n (fun j k=>M r j*a i j k)];rw[aA (g:=fun j=>M r j*o6 n (cm M x) i j) (fun j l=>by rw[Fe,Ff (d i j b).1 om,<-(d i j b).2 x])]
   rw[<-(d i r b).2 x];have w:aq n (fun j=>cm M x r j*o6 n (cm M x) i j)=x*o6 n (cm M x) i r-aq n (fun j=>M r j*o6 n (cm M x) i j):=by
    rw[aA (g:=fun j=>(if r=j then x*o6 n (cm M x) i j else 0)-M r j*o6 n (cm M x) i j) (fun j _=>by simp only[cm];split<;>grind),kw]
    rw[cp r q (fun j _ l=>by rw[if_neg (ai l)])];simp
   rw[<-w,f];split
   ·rw[hχ x]
   ·simp only[mh];rw[iC];intro k _;rw[lc]
  exact Cl key om
 ·have key:∀x,mh n (fun k=>aq n (fun i=>a i i k)) x=mh n (Ny (fun k=>if k=n then 1 else e k)) x:=by
   intro x;rw[Fb n n (fun i k=>a i i k)];rw[aA (g:=fun i=>o6 n (cm M x) i i) (fun i b=>by rw[<-(d i i b).2 x])]
   have:∀k:Int,1<=k->k∣aq n (fun i=>o6 n (cm M x) i i)-mh n (Ny (fun k=>if k=n then 1 else e k)) x:=by
    intro h C;obtain⟨u,y⟩:=IH n (cm M x) h n (af _);obtain⟨v,D⟩:=JT n (fun k=>if k=n then 1 else e k) x h
    have z:det n (dg (cm M x) h n)=det n (cm M (x+h)):=aT fun i j b l=>by
     simp only[dg,cm];by_cases e:i=j
     ·subst e;simp[b];omega
     ·simp[e]
    rw[z,hχ,hχ]at y;refine⟨v-u,?_⟩;have A:h*(aq n (fun i=>o6 n (cm M x) i i)-mh n (Ny (fun k=>if k=n then 1 else e k)) x)=h*(h*(v-u)):=by
     grind
    exact cB om A
   have:=KH this;omega
  exact Cl key s
 ·rw[(d i j b).2 0];obtain⟨m,rfl⟩:∃m,n=m+1:=⟨n-1,om⟩
  rw[qH];omega
theorem mC(a:i<n)(f:Nat->Int):aq n (fun j=>(if i=j then 1 else 0)*f j)=f i:=by
 rw[cp i a (fun j _ b=>by rw[if_neg (ai b),lc])];simp
theorem Kk(p:1<=n)(M:aB):∀i j,i<n->j<n->pT n M (n-1) j i=o6 n (cm M 0) i j:=by
 obtain⟨a,χ,q,s,h,t,u⟩:=Kl p M;have key:∀k,k<n->∀i j,i<n->j<n->pT n M k j i=a i j (n-1-k):=by
  intro k
  induction k with
  | zero =>
   intro _ i j b c;have d:=h i j n b c (af _);rw[iC (fun k l=>by rw[s i k b l,ld]),q]at d
   obtain⟨m,rfl⟩:∃m,n=m+1:=⟨n-1,om⟩
   simp only[Np]at d;simp only[pT,fO,Nat.sub_zero];rw[show(if j=i then(1:Int)else 0)=if i=j then 1 else 0 by split<;>split<;>omega]
   omega
  | succ k ih =>
   intro l i j b c;have ih:=ih om;obtain⟨K,v⟩:∃K,n-1-k=K+1:=⟨n-2-k,om⟩
   have f:n-1-(k+1)=K:=om
   rw[f];rw[v]at ih;have o:∀i r,i<n->r<n->mm n M (pT n M k) r i=a i r K-(if i=r then χ (K+1)else 0):=by
    intro i r b w;have d:=h i r (K+1) b w om;simp only[Np]at d;simp only[mm];rw[aA (g:=fun j=>M r j*a i j (K+1)) (fun j c=>by rw[ih i j b c])]
    omega
   have x:tr n (mm n M (pT n M k))=-((k+1:Nat):Int)*χ (K+1):=by
    simp only[tr];rw[aA (g:=fun i=>a i i K - χ (K+1)) (fun i b=>by rw[o i i b b,if_pos rfl]),kw,t K om,B4]
    have:(n:Int)=K+1+(k+1):=om
    rw[this];simp only[kh,Int.natCast_one];grind
   simp only[pT];rw[o i j b c,x,Int.mul_ediv_cancel_left _ om];by_cases e:i=j
   ·subst e;simp
   ·rw[if_neg e,if_neg (ai e)];omega
 intro i j b c;rw[key (n-1) om i j b c,Nat.sub_self,u i j b c]
def jF(n:Nat)(M:aB):aB:=fun i j=>if n%2=0 then-pT n M (n-1) i j else pT n M (n-1) i j
theorem JX(n:Nat):(-1:Int)^n=if n%2=0 then 1 else -1:=by
 induction n with
 | zero=>rfl
 | succ n ih=>rw[eO,ih];split<;>split<;>omega
theorem xU(d:1<=n)(M:aB){i j:Nat}(c:i<n)(e:j<n):jF n M j i=o6 n M i j:=by
 have f:o6 n (cm M 0) i j=(-1)^n*(-1*o6 n M i j):=by
  unfold o6;rw[<-pV M c,<-pW];congr 1;funext a b;simp only[setRow,cm,dC];split<;>grind
 simp only[jF];rw[Kk d M i j c e,f,JX];split<;>grind
theorem pN(n:Nat)(A B C:aB)(i j:Nat):mm n (mm n A B) C i j=mm n A (mm n B C) i j:=by
 simp only[mm];rw[aA (g:=fun k=>aq n (fun l=>A i l*B l k*C k j)) (fun k _=>by rw[bZ,<-cO];exact aA fun l _=>by grind)]
 rw[oP];exact aA fun l _=>by rw[<-cO];exact aA fun k _=>by grind
theorem pM{A' B B':aB}(h:∀k,k<n->A i k=A' i k)(h':∀k,k<n->B k j=B' k j):mm n A B i j=mm n A' B' i j :=
 aA fun k a=>by rw[h k a,h' k a]
theorem CA(n:Nat)(M:aB):∀k i j,i<n->j<n->mm n (pT n M k) M i j=mm n M (pT n M k) i j
 | 0,i,j,b,a=>by
  simp only[mm,pT];rw[mC b (fun k=>M k j),cp j a (fun k _ c=>by rw[if_neg c,ld])];simp
 | k+1,i,j,b,a=>by
  have d:mm n (pT n M (k+1)) M i j=mm n (mm n M (pT n M k)) M i j+(tr n (mm n M (pT n M k))/(-((k+1:Nat):Int)))*M i j:=by
   simp only[mm,pT];rw[<-mC b (fun l=>(tr n (mm n M (pT n M k))/(-((k+1:Nat):Int)))*M l j),<-dI];exact aA fun l _=>by split<;>grind
  have f:mm n M (pT n M (k+1)) i j=mm n M (mm n M (pT n M k)) i j+(tr n (mm n M (pT n M k))/(-((k+1:Nat):Int)))*M i j:=by
   simp only[mm,pT];rw[<-mC a (fun l=>(tr n (mm n M (pT n M k))/(-((k+1:Nat):Int)))*M i l),<-dI];refine aA fun l _=>?_;by_cases e:l=j
   ·subst e;simp;grind
   ·rw[if_neg e,if_neg (ai e)];grind
  rw[d,f,pN];congr 1;exact pM (fun _ _=>rfl) (fun l g=>CA n M k l j g a)
theorem qU(c:1<=n)(M:aB){i j:Nat}(b:i<n)(a:j<n):mm n (jF n M) M i j=if i=j then det n M else 0:=by
 have d:mm n (jF n M) M i j=mm n M (jF n M) i j:=by
  have h:=CA n M (n-1) i j b a;simp only[mm,jF]at h ⊢;by_cases e:n%2=0
  ·simp only[e,if_true];rw[aA (g:=fun k=>- (pT n M (n-1) i k*M k j)) (fun k _=>by grind),tK,h,<-tK]
   exact aA fun k _=>by grind
  ·simp only[e,if_false];exact h
 rw[d];simp only[mm];rw[aA (g:=fun k=>M i k*o6 n M j k) (fun k f=>by rw[xU c M a f]),sC M a b]
 split<;>split<;>omega

def kv(M:Int)(k:Nat):ik:=fun r=>if r=k then M else 0
structure TL(N:Nat)(L:ik->Prop)(d M:Nat->Int):Prop where
 lat:Jv N L
 pos:∀i,i<N->0<d i
 step:∀i,i<N->M i=d i*M (i+1)
 last:M N=1
 dvd:∀x,L x->∀i,i<N->(∀r,r<i->x r=0)->d i∣x i
 unit:∀i k,i<=k->k<N->L (kv (M i) k)
 col:∀i,i<N->∃x,L x/\(∀r,r<i->x r=0)/\x i=d i
theorem FK(b:Dk N N H){x c:ik}(g:∀r,r<N->x r=aq N (fun j=>H r j*c j)):∀i,i<=N->(∀r,r<i->x r=0)->∀j,j<i->c j=0:=by
 intro i
 induction i with
 | zero=>intro _ _ j h;omega
 | succ i ih =>
  intro n d j h;have ih':=ih om (fun r o=>d r om);by_cases e:j=i
  ·subst e;have f:=g j om;rw[d j om,cp j om (fun k l m=>by
    rcases az k j with a|a
    ·rw[ih' k a];simp
    ·rw[(b j om).1 k om l];simp)]at f
   rcases gK.1 f.symm with a|a
   ·have:=(b j om).2;omega
   ·exact a
  ·exact ih' j om
theorem G9(b:Dk N N H){x c:ik}(d:∀r,r<N->x r=aq N (fun j=>H r j*c j)){i:Nat}(a:i<N)(f:∀r,r<i->x r=0):x i=H i i*c i:=by
 have g:=FK b d i om f;rw[d i a,cp i a (fun k h l=>by
  rcases az k i with e|e
  ·rw[g k e];simp
  ·rw[(b i a).1 k om h];simp)]
def BY(H:aB)(N i:Nat):Int:=fv (N-i) (fun r=>H (i+r) (i+r))
theorem wF(H:aB){N i:Nat}(a:i<N):BY H N i=H i i*BY H N (i+1):=by
 unfold BY;rw[(om:N-i=(N-(i+1))+1)]
 simp only[fv,cn];congr 2;funext r;rw[(om:i+(r+1)=i+1+r)]
theorem Aq(H:aB){N:Nat}:∀(m i:Nat),i+m<=N->BY H N (i+m)∣BY H N i
 | 0,i,_=>jV _
 | m+1,i,h=>by
  have a:=Aq H (N:=N) m (i+1) om;rw[wF H (om:i<N),(om:i+(m+1)=i+1+m)]
  exact cP a
theorem BW{N:Nat}{H:aB}(g:Dk N N H):∀(m k:Nat),k<N->N-k<=m->gO N N H (kv (BY H N k) k)
 | 0,k,c,p=>om
 | m+1,k,c,p=>by
  have b:=gO.lat N N H;have s:∀r,k<r->r<N->gO N N H (kv (BY H N (k+1)) r):=by
   intro r l d;obtain⟨q,n⟩:=Aq H (N:=N) (r-(k+1)) (k+1) om;rw[(om:k+1+(r-(k+1))=r)]at n
   refine b.ext _ _ (b.smul (BW g m r d om) q) (fun i _=>?_);simp only[kv];split
   ·rw[n,bZ]
   ·simp
  have l:=b.sum (fun r=>if k<r then kv (BY H N (k+1)) r else fun _=>0) (fun r=>- H r k) N (fun r t=>by
   split
   ·rename_i h;exact s r h t
   ·exact b.zero)
  refine b.ext _ _ (b.comb _ _ (gO.col (j:=k) c) l (BY H N (k+1)) 1) (fun i e=>?_);have d:aq N (fun j=>(if k<j then kv (BY H N (k+1)) j else fun _=>0) i*- H j k)=if k<i then BY H N (k+1)*- H i k else 0:=by
   rw[cp i e (fun j u f=>by
    by_cases a:k<j
    ·simp[a,kv,ai f]
    ·simp[a])]
   by_cases a:k<i
   ·simp[a,kv]
   ·simp[a]
  simp only[d,kv];by_cases a:i=k
  ·subst a;rw[if_neg om,if_pos rfl,wF H e];grind
  ·rw[if_neg a];by_cases o:k<i
   ·rw[if_pos o];grind
   ·rw[if_neg o,(g i e).1 k om c];simp
theorem TL.of_tri(b:Dk N N H):TL N (gO N N H) (fun i=>H i i) (BY H N):=by
 refine⟨gO.lat N N H,fun i a=>(b i a).2,fun i a=>wF H a,by simp[BY,fv],?_,fun i k e f=>?_,fun i a=>⟨_,gO.col a,fun r g=>(b r om).1 i g a,rfl⟩⟩
 ·rintro x ⟨c,h⟩ i a j;exact⟨c i,G9 b h a j⟩
 ·obtain⟨q,d⟩:=Aq H (N:=N) (k-i) i om;rw[(om:i+(k-i)=k)]at d
  refine(gO.lat N N H).ext _ _ ((gO.lat N N H).smul (BW b (N-k) k f (af _)) q) (fun r _=>?_);simp only[kv];split
  ·rw[d,bZ]
  ·simp
theorem TL.congr(h:TL N L d M)(c:Jv N L')(e:∀x,L' x↔L x):TL N L' d M :=
 ⟨c,h.pos,h.step,h.last,fun x f=>h.dvd x ((e x).1 f),fun i k a b=>(e _).2 (h.unit i k a b),fun i g=>by obtain⟨x,a,b⟩:=h.col i g;exact⟨x,(e x).2 a,b⟩⟩
theorem TL.of_det(c:det N w≠0):∃d M,TL N (gO N N w) d M/\M 0=((det N w).natAbs:Int):=by
 obtain⟨H,a,b⟩:=Dp w c;refine⟨_,_,(TL.of_tri b).congr (gO.lat N N w) a.1,?_⟩;rw[G8 a b];simp[BY]
theorem TL.M_pos(h:TL N L d M):∀m i,N-i<=m->i<=N->0<M i
 | 0,i,a,b=>by rw[(om:i=N),h.last];omega
 | m+1,i,a,b=>by
  by_cases e:i=N
  ·rw[e,h.last];omega
  ·rw[h.step i om];exact Int.mul_pos (h.pos i om) (h.M_pos m (i+1) om om)
structure HI(N:Nat)(L:ik->Prop)(d M:Nat->Int)(i:Nat)(C:Nat->ik):Prop where
 mem:∀j,j<N->L (C j)
 zero:∀j,i<=j->j<N->∀r,r<i->C j r=0
 gen:∀x,L x->(∀r,r<i->x r=0)->∃t z:ik,∀r,i<=r->r<N->x r=aq N (fun j=>if i<=j then C j r*t j else 0)+M i*z r
 done:∀j,j<i->(∀r,r<j->C j r=0)/\C j j=d j/\∀r,j<r->r<i->0<=C j r/\C j r<d r
theorem HI.init:HI N (gO N N w) d M 0 (fun j r=>w r j):=by
 refine⟨fun j a=>gO.col a,fun j _ _ r b=>om,fun x e _=>?_,fun j a=>om⟩
 obtain⟨c,f⟩:=e;exact⟨c,fun _=>0,fun r _ b=>by rw[f r b];simp⟩
theorem HI.red(f:TL N L d M){i:Nat}{C C':Nat->ik}(h:HI N L d M i C)(y:i<=N)(q:Nat->ik)(o:∀j r,j<N->r<N->C' j r=C j r+(if i<=r then M i*q j r else 0)):HI N L d M i C':=by
 have lo:∀j r,j<N->r<i->C' j r=C j r:=fun j r b a=>by rw[o j r b om,if_neg om];omega
 refine⟨fun j b=>?_,fun j g n r a=>by rw[lo j r n a];exact h.zero j g n r a,fun x v w=>?_,fun j b=>?_⟩
 ·have g:=f.lat.sum (fun r=>if i<=r then kv (M i) r else fun _=>0) (q j) N (fun r a=>by
   split
   ·rename_i c;exact f.unit i r c a
   ·exact f.lat.zero)
  refine f.lat.ext _ _ (f.lat.add (h.mem j b) g) (fun r a=>?_);rw[o j r b a,cp r a (fun k A p=>by
   by_cases c:i<=k
   ·simp[c,kv,ai p]
   ·simp[c])]
  by_cases c:i<=r
  ·simp[c,kv]
  ·simp[c]
 ·obtain⟨t,z,s⟩:=h.gen x v w;refine⟨t,fun r=>z r-aq N (fun j=>if i<=j then q j r*t j else 0),fun r a l=>?_⟩
  rw[s r a l];have e:aq N (fun j=>if i<=j then C' j r*t j else 0)=aq N (fun j=>if i<=j then C j r*t j else 0)+M i*aq N (fun j=>if i<=j then q j r*t j else 0):=by
   rw[<-cO,<-dI];refine aA fun j b=>?_;split
   ·rw[o j r b l,if_pos a];grind
   ·simp
  rw[e];grind
 ·obtain⟨g,n,c⟩:=h.done j b;refine⟨fun r a=>by rw[lo j r om om];exact g r a,by rw[lo j j om b];exact n,fun r u m=>by rw[lo j r om m];exact c r u m⟩
theorem rt{f:Nat->Int}(g:i<n)(l:j<n)(c:i≠j)(h:∀k,k<n->k≠i->k≠j->f k=0):aq n f=f i+f j:=by
 have e:aq n f=aq n (fun k=>(if k=i then f i else 0)+(if k=j then f j else 0)):=aA fun k a=>by
  by_cases b:k=i
  ·subst b;simp[c]
  ·by_cases d:k=j
   ·subst d;simp[b]
   ·simp[b,d,h k a b d]
 rw[e,dI,cp i g (fun k _ a=>by simp[a]),cp j l (fun k _ a=>by simp[a])]
 simp
theorem HI.comb(o:TL N L d M){i j:Nat}{C C':Nat->ik}(h:HI N L d M i C)(H:i<j)(s:j<N){a b x y:Int}(F:a*x+b*y=1)
  (u:∀r,r<N->C' i r=a*C i r+b*C j r) (w:∀r,r<N->C' j r=x*C j r-y*C i r) (q:∀k r,k<N->r<N->k≠i->k≠j->C' k r=C k r):HI N L d M i C':=by
 have n:i<N:=om
 refine⟨fun k g=>?_,fun k A p r c=>?_,fun v I J=>?_,fun k g=>?_⟩
 ·by_cases l:k=i
  ·subst l;exact o.lat.ext _ _ (o.lat.comb _ _ (h.mem k g) (h.mem j s) a b) (fun r c=>(u r c).symm)
  ·by_cases m:k=j
   ·subst m;exact o.lat.ext _ _ (o.lat.comb _ _ (h.mem k g) (h.mem i n) x (-y)) (fun r c=>by rw[w r c];grind)
   ·exact o.lat.ext _ _ (h.mem k g) (fun r c=>(q k r g c l m).symm)
 ·have G:=h.zero i (af _) n r c;have z2:=h.zero j om s r c;by_cases l:k=i
  ·subst l;rw[u r om,G,z2];simp
  ·by_cases m:k=j
   ·subst m;rw[w r om,G,z2];simp
   ·rw[q k r p om l m];exact h.zero k A p r c
 ·obtain⟨t,z,B⟩:=h.gen v I J;refine⟨fun k=>if k=i then x*t i+y*t j else if k=j then a*t j-b*t i else t k,z,fun r c f=>?_⟩
  rw[B r c f];congr 1;have e:aq N (fun k=>(if i<=k then C' k r*(if k=i then x*t i+y*t j else if k=j then a*t j-b*t i else t k)else 0)+(-1)*(if i<=k then C k r*t k else 0))=0:=by
   rw[rt n s om (fun k g l m=>by
    simp only[l,m,if_false];split
    ·rw[q k r g f l m];omega
    ·simp)]
   simp only[af,if_true,(om:i<=j),(om:j≠i),if_false]
   rw[u r f,w r f];have:C i r*t i=(a*x+b*y)*(C i r*t i):=by rw[F];omega
   have:C j r*t j=(a*x+b*y)*(C j r*t j):=by rw[F];omega
   grind
  rw[dI,cO]at e;show _=aq N (fun k=>if i<=k then C' k r*(if k=i then x*t i+y*t j else if k=j then a*t j-b*t i else t k)else 0)
  omega
 ·obtain⟨K,O,P⟩:=h.done k g;have e:∀r,r<N->C' k r=C k r:=fun r c=>q k r om c om om;exact⟨fun r c=>by rw[e r om];exact K r c,by rw[e k om];exact O,fun r D E=>by rw[e r om];exact P r D E⟩
theorem HI.pivot_eq(e:TL N L d M){i:Nat}{C:Nat->ik}(h:HI N L d M i C)(c:i<N)(k:∀j,i<j->j<N->C j i=0){p a b:Int}(l:0<p)(m:p=a*C i i+b*M i)(n:p∣C i i)(o:p∣M i):p=d i:=by
 have q:d i∣p:=by
  rw[m];exact jk (cP (e.dvd _ (h.mem i c) i c (h.zero i (af _) c))) (cP ⟨M (i+1),e.step i c⟩)
 have r:p∣d i:=by
  obtain⟨x,s,u,v⟩:=e.col i c;obtain⟨t,z,f⟩:=h.gen x s u;have g:=f i (af _) c;rw[v,cp i c (fun j w y=>by
   split
   ·rw[k j om w];simp
   ·rfl)]at g
  simp only[af,if_true]at g;rw[g];exact jk (im n) (im o)
 exact Int.dvd_antisymm (aS l) (aS (e.pos i c)) r q
theorem HI.pivot(k:TL N L d M){i:Nat}{C C':Nat->ik}(h:HI N L d M i C)(f:i<N)(B:∀j,i<j->j<N->C j i=0){p a b:Int}(S:0<p)(D:p=a*C i i+b*M i)(K:p∣C i i)(T:p∣M i)(q:ik)
  (E:∀r,r<N->C' i r=if r=i then p else a*C i r) (y:∀j r,j<i->r<N->C' j r=C j r-q j*C' i r) (F:∀j r,i<j->j<N->r<N->C' j r=C j r) (U:∀j,j<i->0<=C' j i/\C' j i<p) :
  HI N L d M (i+1) C':=by
 have m:=h.pivot_eq k f B S D K T;have V:=h.zero i (af _) f;have g:∀r,r<i->C' i r=0:=fun r c=>by rw[E r om,if_neg om,V r c];simp
 have o:L (C' i):=k.lat.ext _ _ (k.lat.comb _ _ (h.mem i f) (k.unit i i (af _) f) a b) (fun r c=>by
  rw[E r c];simp only[kv];by_cases e:r=i
  ·subst e;simp[D]
  ·simp[e])
 refine⟨fun j l=>?_,fun j W n r c=>?_,fun x X O=>?_,fun j l=>?_⟩
 ·rcases az j i with P|P
  ·exact k.lat.ext _ _ (k.lat.comb _ _ (h.mem j l) o 1 (- q j)) (fun r c=>by rw[y j r P c];grind)
  ·by_cases e:j=i
   ·subst e;exact o
   ·exact k.lat.ext _ _ (h.mem j l) (fun r c=>(F j r om l c).symm)
 ·rw[F j r om n om];by_cases e:r=i
  ·subst e;exact B j om n
  ·exact h.zero j om n r om
 ·obtain⟨t,z,s⟩:=h.gen x X (fun r c=>O r om);have G:=s i (af _) f;rw[O i om,cp i f (fun j l H=>by
   split
   ·rw[B j om l];simp
   ·rfl)]at G
  simp only[af,if_true]at G;obtain⟨u,Q⟩:=K;have A:=k.step i f;rw[<-m]at A;have I:a*u+b*M (i+1)=1:=by
   rw[Q,A]at D;refine cB (om:p≠0) ?_
   grind
  have Y:u*t i+M (i+1)*z i=0:=by
   rw[Q,A]at G;refine cB (om:p≠0) ?_
   grind
  have Z:t i=M (i+1)*(b*t i-a*z i):=by
   have:t i=(a*u+b*M (i+1))*t i:=by rw[I];omega
   have:a*(u*t i+M (i+1)*z i)=0:=by rw[Y];omega
   grind
  refine⟨t,fun r=>C i r*(b*t i-a*z i)+p*z r,fun r c v=>?_⟩;rw[s r om v,A];have e:aq N (fun j=>(if i<=j then C j r*t j else 0)+(-1)*(if i+1<=j then C' j r*t j else 0))=C i r*t i:=by
   rw[cp i f (fun j l H=>?_)]
   ·rw[if_pos (af _),if_neg om];omega
   ·by_cases R:i<=j
    ·rw[if_pos R,if_pos om,F j r om l v];omega
    ·rw[if_neg R,if_neg om];omega
  rw[dI,cO]at e;have h10:C i r*t i=M (i+1)*(C i r*(b*t i-a*z i)):=by
   have:C i r*t i=C i r*(M (i+1)*(b*t i-a*z i)):=by rw[<-Z]
   grind
  grind
 ·by_cases e:j=i
  ·subst e;exact⟨g,by rw[E j f,if_pos rfl,m],fun r w J=>om⟩
  ·obtain⟨g1,g2,g3⟩:=h.done j om;refine⟨fun r c=>by rw[y j r om om,g1 r c,g r om];simp,by rw[y j j om om,g2,g j om];simp,fun r w J=>?_⟩
   by_cases e':r=i
   ·subst e';rw[<-m];exact U j om
   ·rw[y j r om om,g r om];have:=g3 r w om;simpa using this
theorem HI.span(c:TL N L d M){C:Nat->ik}(h:HI N L d M N C)(x:ik):gO N N (fun r j=>C j r) x↔L x:=by
 constructor
 ·exact gO.sub c.lat (fun j f=>c.lat.ext _ _ (h.mem j f) (fun _ _=>rfl))
 ·intro m;have g:=gO.lat N N (fun r j=>C j r);have key:∀i,i<=N->∃y,gO N N (fun r j=>C j r) y/\∀r,r<i->y r=x r:=by
   intro i
   induction i with
   | zero=>intro _;exact⟨_,g.zero,fun r k=>om⟩
   | succ i ih =>
    intro p;obtain⟨y,a,b⟩:=ih om;have l:L y:=gO.sub c.lat (fun j f=>c.lat.ext _ _ (h.mem j f) (fun _ _=>rfl)) a;obtain⟨q,s⟩:=c.dvd (fun r=>1*x r+(-1)*y r) (c.lat.comb _ _ m l 1 (-1)) i om (fun r k=>by simp only[b r k];omega)
    refine⟨fun r=>1*y r+q*C i r,g.comb _ _ a (gO.col (j:=i) om) 1 q,fun r k=>?_⟩;obtain⟨n,o,_⟩:=h.done i om;by_cases e:r=i
    ·subst e;simp only;rw[o];grind
    ·simp only;rw[n r om,b r om];omega
  obtain⟨y,a,b⟩:=key N (af _);exact g.ext _ _ a b

def gn(p:Int)(piv:Nat)(q:Nat->Int):aB:=fun i j=>if j=piv then(if i=piv then p*p else 0)else if i=j then p else if i=piv then-(p*q j)else 0
def yI(n:Nat)(p:Int)(piv:Nat)(q x:Nat->Int):aB:=fun i j=>if j<n then gn p piv q i j else x i
theorem JG{q:Nat->Int}(w:Nat->Int)(a:piv<n){j:Nat}(b:j<n):aq n (fun i=>w i*gn p piv q i j)=if j=piv then w piv*(p*p)else w j*p-w piv*(p*q j):=by
 by_cases e:j=piv
 ·subst e;rw[cp j b (fun i _ c=>by simp[gn,c])];simp[gn]
 ·rw[rt b a e (fun i _ d f=>by simp[gn,e,d,f]),if_neg e]
  simp[gn,e,ai e];grind
theorem JE{q:Nat->Int}(i j:Nat):p∣gn p piv q i j:=by
 unfold gn;split
 ·split
  ·exact⟨p,rfl⟩
  ·exact lg _
 ·split
  ·exact jV _
  ·split
   ·exact⟨- q j,by grind⟩
   ·exact lg _
theorem AN{q:Nat->Int}(i:Nat)(c:Nat->Int):aq (n+1) (fun j=>yI n p piv q x i j*c j)=aq n (fun j=>gn p piv q i j*c j)+x i*c n:=by
 simp only[aq];rw[aA (g:=fun j=>gn p piv q i j*c j) (fun j a=>by simp[yI,a])]
 simp[yI]
def iz:Nat->(Nat->Nat)->Nat
 | 0,_=>1
 | n+1,f=>f 0*iz n (fun i=>f (i+1))
theorem rE{f g:Nat->Nat}(h:∀i,i<n->f i<=g i):iz n f<=iz n g:=by
 induction n generalizing f g with
 | zero=>exact af _
 | succ n ih=>simp only[iz];exact bK (h 0 om) (ih fun i a=>h (i+1) om)
theorem zt(n:Nat)(f:Nat->Int):(aq n f).natAbs<=cW n f:=by
 induction n with
 | zero=>simp[aq,cW]
 | succ n ih=>simp only[aq,cW];omega
theorem xX(f:Nat->Int){j:Nat}(b:j<n+1):cW n (fun k=>f (skip j k))+(f j).natAbs=cW (n+1) f:=by
 induction n with
 | zero=>rw[(om:j=0)];simp[cW]
 | succ n ih =>
  by_cases e:j=n+1
  ·subst e;rw[show cW (n+1) (fun k=>f (skip (n+1) k))=cW (n+1) f from ?_]
   ·simp only[cW]
   ·have key:∀m,m<=n+1->cW m (fun k=>f (skip (n+1) k))=cW m f:=by
     intro m
     induction m with
     | zero=>intro _;rfl
     | succ m a=>intro c;simp only[cW];rw[a om];simp[skip,(om:m<n+1)]
    exact key _ (af _)
  ·have:=ih om;simp only[cW]at this ⊢;rw[show skip j n=n+1 by simp[skip];omega]
   omega
theorem Bk:∀(n:Nat) (A:aB),(det n A).natAbs<=iz n (fun i=>cW n (A i))
 | 0,_=>by simp[det,iz]
 | n+1,A=>by
  simp only[det,iz];have key:∀m,m<=n+1->(aq m (fun j=>uE j*A 0 j*det n (cut A j))).natAbs<=cW m (A 0)*iz n (fun i=>cW (n+1) (A (i+1))):=by
   intro m
   induction m with
   | zero=>intro _;simp[aq]
   | succ m ih =>
    intro c;have d:=ih om;rw[show cW (m+1) (A 0)=cW m (A 0)+(A 0 m).natAbs from rfl];simp only[aq];rw[dO];have e:(uE m*A 0 m*det n (cut A m)).natAbs=(A 0 m).natAbs*(det n (cut A m)).natAbs:=by
     rw[eG,eG];have:(uE m).natAbs=1:=by unfold uE;split<;>rfl
     rw[this,jR]
    have a:=Bk n (cut A m);have b:iz n (fun i=>cW n (cut A m i))<=iz n (fun i=>cW (n+1) (A (i+1))):=rE fun i _=>by
     have:=xX (A (i+1)) (om:m<n+1)
     show cW n (fun k=>A (i+1) (skip m k))<=_;omega
    have f:=aQ (A 0 m).natAbs (Nat.le_trans a b);omega
  exact key _ (af _)

theorem As(l:k<n)(b:∀j,j<=k->det j A≠0)(c:∀j,j<n-k->ca A k 0 j=0):det n A=0:=by
 have a:=qD b (n-k-1) id id;have d:det (n-k-1+1) (fun i j=>ca A k (id i) (id j))=0:=CL _ (fun j m=>c j om);rw[d,(om:k+(n-k-1)+1=n)]at a
 have f:det k A^(n-k-1)≠0:=Int.pow_ne_zero (b k (af _));have g:det n (fun i j=>A (up k id i) (up k id j))=det n A:=aT fun i j _ _=>by
  have e:∀i,up k id i=i:=fun i=>by unfold up;split<;>simp;omega
  rw[e,e]
 rw[g]at a;rcases gK.1 a.symm with h|h
 ·exact absurd h f
 ·exact h
theorem L0{p:Nat}(d:k<=p)(i a:Nat):cV k p (up k (fun _=>i) a)=up k (fun _=>cV 0 (p-k) i) a:=by
 unfold up cV;by_cases h:a<k
 ·simp only[h,if_true];rw[if_neg om,if_neg om]
 ·simp only[h,if_false];by_cases b:i=0
  ·rw[if_pos om,if_pos b];omega
  ·by_cases c:i=p-k
   ·rw[if_neg om,if_pos om,if_neg b,if_pos c];omega
   ·rw[if_neg om,if_neg om,if_neg b,if_neg c]
theorem B3{p:Nat}(A:aB)(c:k<=p)(i j:Nat):ca (fun a b=>A a (cV k p b)) k i j=ca A k i (cV 0 (p-k) j):=by
 unfold ca;refine aT fun a b d e=>?_;show A _ (cV k p (up k (fun _=>j) b))=_;rw[L0 c]
theorem l5{f g:Nat->Int}(h:∀i,i<n->f i=g i):cW n f=cW n g:=by
 induction n with
 | zero=>rfl
 | succ n ih=>simp only[cW];rw[ih (fun i a=>h i om),h n om]
theorem I5(f:Nat->Int)(h:n<=m):cW n f<=cW m f:=by
 induction m with
 | zero=>rw[(om:n=0)];exact af _
 | succ m ih =>
  rcases az n (m+1)with a|a
  ·have:=ih om;simp only[cW];omega
  ·rw[(om:n=m+1)];exact af _
theorem iX(f:Nat->Int){j:Nat}(a:j<n):cW n (fun b=>if b=j then 0 else f b)+(f j).natAbs=cW n f:=by
 induction n with
 | zero=>omega
 | succ n ih =>
  simp only[cW];rcases az j n with h|h
  ·have:=ih h;rw[if_neg (om:¬n=j)];omega
  ·rw[(om:j=n),if_pos rfl,l5 (g:=f) (fun i c=>if_neg om)];simp
theorem GE(f:Nat->Int){i k:Nat}(a:i<n)(c:k<n):cW n (fun b=>f (cV i k b))=cW n f:=by
 by_cases e:i=k
 ·subst e;exact l5 fun b _=>by unfold cV;split<;>simp_all
 ·have p:=iX f a;have j:=iX (fun b=>if b=i then 0 else f b) c
  have l:=iX (fun b=>f (cV i k b)) a;have d:=iX (fun b=>if b=i then 0 else f (cV i k b)) c
  simp only[if_neg (ai e)]at j d;have q:cW n (fun b=>if b=k then 0 else if b=i then 0 else f (cV i k b))=cW n (fun b=>if b=k then 0 else if b=i then 0 else f b):=l5 fun b _=>by
   by_cases g:b=k
   ·simp[g]
   ·by_cases h:b=i
    ·simp[h]
    ·simp[g,h,cV]
  have m:cV i k i=k:=by simp[cV]
  have o:cV i k k=i:=by simp[cV]
  rw[m]at l;rw[o]at d;omega
theorem C2(g:Nat->Int)(h:k+j<N):cW (k+1) (fun b=>g (up k (fun _=>j) b))<=cW N g:=by
 have d:=iX g h;have a:cW k (fun b=>g (up k (fun _=>j) b))=cW k (fun b=>if b=k+j then 0 else g b):=l5 fun b c=>by
  simp only[up,c,if_true];rw[if_neg om]
 have e:=I5 (fun b=>if b=k+j then 0 else g b) (om:k<=N)
 simp only[cW];rw[a,show up k (fun _=>j) k=k+j by simp[up]]
 omega
structure ln(A:aB)(N:Nat)(σ:Nat->Nat)(k:Nat):Prop where
 lead:∀j,j<=k->det j (fun a b=>A a (σ b))≠0
 abs:∀B:aB,(det N (fun a b=>B a (σ b))).natAbs=(det N B).natAbs
 sum:∀f:Nat->Int,cW N (fun b=>f (σ b))=cW N f
theorem ln.init(A:aB)(N:Nat):ln A N id 0:=⟨fun j a=>by rw[(om:j=0)];simp[det],fun _=>rfl,fun _=>rfl⟩
theorem ln.swap{p:Nat}(h:ln A N σ k)(g:k<=p)(c:p<N):ln A N (fun a=>σ (cV k p a)) k:=by
 refine⟨fun j d=>?_,fun B=>?_,fun f=>?_⟩
 ·have e:det j (fun a b=>A a (σ (cV k p b)))=det j (fun a b=>A a (σ b)):=aT fun a b _ i=>by rw[show cV k p b=b by unfold cV;rw[if_neg om,if_neg om]]
  rw[e];exact h.lead j d
 ·by_cases e:k=p
  ·subst e;rw[show(fun a b=>B a (σ (cV k k b)))=fun a b=>B a (σ b) by funext a b;rw[show cV k k b=b by unfold cV;split<;>simp_all]]
   exact h.abs B
  ·have:=mW (fun a b=>B a (σ b)) (om:k<N) c e
   rw[this,Int.natAbs_neg];exact h.abs B
 ·rw[GE (fun b=>f (σ b)) (om:k<N) c];exact h.sum f
theorem ln.step(h:ln A N σ k)(c:ca (fun a b=>A a (σ b)) k 0 0≠0):ln A N σ (k+1) :=
 ⟨fun j e=>by
  rcases az j (k+1)with d|d
  ·exact h.lead j om
  ·rw[(om:j=k+1),<-cA];exact c,h.abs,h.sum⟩
def rZ(n R i:Nat):Nat:=if i<n then i else R
theorem L6{a:Nat}(b:n<=R):up n (fun _=>R-n) a=rZ n R a:=by simp only[up,rZ];split<;>omega
theorem JR(c:n<=R):ca A n (R-n) 0=det (n+1) (fun a b=>A (rZ n R a) b):=by
 unfold ca;refine aT fun a b _ d=>?_;rw[L6 c,lq _ _ d]
theorem ln.found(h:ln A (n+1) σ k)(o:k<n)(f:det (n+1) (fun a b=>A (rZ n R a) b)≠0):¬∀j,j<n+1-k->ca (fun a b=>A a (σ b)) k 0 j=0:=by
 intro g;have e:∀m,m<=n->∀B:aB,det m (fun a b=>B (rZ n R a) b)=det m B:=fun m p B=>aT fun a b d _=>by rw[show rZ n R a=a by unfold rZ;rw[if_pos om]]
 have i:=As (A:=fun a b=>A (rZ n R a) (σ b)) (om:k<n+1) (fun j c=>by rw[e j om (fun a b=>A a (σ b))];exact h.lead j c) (fun j c=>by
  rw[<-g j c];unfold ca;refine aT fun a b d _=>?_;rw[lq _ _ d];simp only[rZ];rw[if_pos (om:a<n)])
 have l:=h.abs (fun a b=>A (rZ n R a) b);rw[i]at l;exact f om
theorem ln.last(h:ln A (n+1) σ k)(c:n<=R):(ca (fun a b=>A a (σ b)) n (R-n) 0).natAbs=(det (n+1) (fun a b=>A (rZ n R a) b)).natAbs:=by
 rw[JR (A:=fun a b=>A a (σ b)) c];exact h.abs (fun a b=>A (rZ n R a) b)
theorem IG:∀(n:Nat) (A:aB),(∀i j,i<n->j<n->A i j=if j=i then 1 else 0)->det n A=1
 | 0,_,_=>rfl
 | n+1,A,h=>by
  rw[qP A (fun i a=>by rw[h _ _ om om,if_neg om]),h 0 0 om om,IG n _ (fun i j a b=>by
   rw[h _ _ om om];by_cases e:j=i
   ·simp[e]
   ·rw[if_neg e,if_neg om])]
  simp
theorem yP(A:aB)(h:∀i,i<n->∀c:Nat->Int,(∀r,r<n->aq n (fun j=>(if r<i then dC r j else A r j)*c j)=0)->c i=0):det n A≠0:=by
 have key:∀m i,i+m=n->det n (fun r j=>if r<i then dC r j else A r j)≠0:=by
  intro m
  induction m with
  | zero =>
   intro i f;rw[IG n _ (fun a b p q=>by rw[if_pos om];rfl)];decide
  | succ m ih =>
   intro i f g;have k:=ih (i+1) om;refine k ?_;have l:=h i om (fun j=>o6 n (fun r j=>if r<i then dC r j else A r j) i j) (fun r o=>by
    refine(sC (fun r j=>if r<i then dC r j else A r j) (om:i<n) o).trans ?_
    rw[g];simp)
   rw[<-l];unfold o6;refine aT fun a b _ _=>?_;unfold setRow;by_cases e:a=i
   ·simp[e]
   ·by_cases d:a<i
    ·simp[e,d,(om:a<i+1)]
    ·simp[e,d,(om:¬a<i+1)]
 have:=key n 0 om;simpa using this

def eg(n:Nat)(M:aB):aB:=fun r j=>if r<n then M r j else if r=n+j then 1 else 0
theorem BV(c:Nat->Int){r:Nat}(a:r<n):aq n (fun j=>dC r j*c j)=c r:=by
 rw[cp r a (fun i _ b=>by simp[dC,b])];simp[dC]
theorem Co(v:p≠0){piv:Nat}(f:piv<n)(q x:Nat->Int):det (n+1) (fun a b=>eg n (yI n p piv q x) (rZ n (n+n) a) b)≠0:=by
 refine yP _ fun i w c s=>?_;have rowU:∀r,r<n+1->r<i->c r=0:=fun r l m=>by
  have:=s r l;rw[aA (g:=fun j=>dC r j*c j) (fun j _=>by rw[if_pos m]),BV c l]at this
  exact this
 have o:c n=0:=by
  by_cases h:n<i
  ·exact rowU n om h
  ·have:=s n om;rw[aA (g:=fun j=>dC n j*c j) (fun j _=>by
    rw[if_neg h];simp only[rZ,eg,dC];by_cases e:j=n
    ·simp[e,(om:¬n+n<n)]
    ·simp[e,(om:¬n+n<n),ai e]),BV c om]at this
   exact this
 have rowM:∀r,r<n->¬r<i->aq n (fun j=>gn p piv q r j*c j)=0:=fun r l m=>by
  have:=s r om;rw[aA (g:=fun j=>yI n p piv q x r j*c j) (fun j _=>by rw[if_neg m];simp[rZ,eg,l]),AN,o]at this
  omega
 have k:∀r,r<n->r≠piv->c r=0:=fun r l d=>by
  by_cases h:r<i
  ·exact rowU r om h
  ·have:=rowM r l h;rw[cp r l (fun j _ t=>by
    simp only[gn];by_cases e:j=piv
    ·simp[e,d]
    ·simp[e,d,ai t])]at this
   simp[gn,d]at this;rcases gK.1 this with h|h
   ·exact absurd h v
   ·exact h
 have u:c piv=0:=by
  by_cases h:piv<i
  ·exact rowU piv om h
  ·have:=rowM piv f h;rw[cp piv f (fun j t d=>by rw[k j t d];simp)]at this
   simp[gn]at this;rcases gK.1 this with h|h
   ·rcases gK.1 h with h|h<;>exact absurd h v
   ·exact h
 rcases az i n with h|h
 ·by_cases e:i=piv
  ·rw[e];exact u
  ·exact k i h e
 ·rw[(om:i=n)];exact o
def yD(n piv r:Nat):Nat:=if r<n then(if r=piv then 1665 else 33)else 1
theorem t8{f:Nat->Int}(a:k<n)(h:∀i,i<n->i≠k->f i=0):cW n f=(f k).natAbs:=by
 have c:=iX f a;have d:cW n (fun b=>if b=k then 0 else f b)=0:=by
  have:∀m,m<=n->cW m (fun b=>if b=k then 0 else f b)=0:=by
   intro m
   induction m with
   | zero=>intro _;rfl
   | succ m ih =>
    intro g;simp only[cW];rw[ih om];by_cases e:m=k
    ·simp[e]
    ·simp[e,h m om e]
  exact this n (af _)
 omega
theorem rP{f:Nat->Int}(h:∀i,i<n->(f i).natAbs<=B):cW n f<=n*B:=by
 induction n with
 | zero=>simp[cW]
 | succ n ih=>have:=ih (fun i a=>h i om);have:=h n om;simp only[cW];rw[ck];omega
theorem Mk{q:Nat->Int}(D:n<=5)(E:0<p)(o:p<=17)(d:piv<n)(s:∀j,j<n->0<=q j/\q j<=16)(t:∀i,i<n->i≠piv->(x i).natAbs<=16)(u:(x piv).natAbs<=288)(r:Nat) :
  cW (n+1) (eg n (yI n p piv q x) r)<=yD n piv r:=by
 unfold yD;split
 ·rename_i a;have v:cW (n+1) (eg n (yI n p piv q x) r)=cW n (gn p piv q r)+(x r).natAbs:=by
   simp only[cW];rw[l5 (g:=gn p piv q r) (fun j c=>by simp[eg,a,yI,c])]
   simp[eg,a,yI]
  rw[v];split
  ·rename_i e;subst e;have F:=iX (gn p r q r) a;have G:cW n (fun b=>if b=r then 0 else gn p r q r b)<=4*272:=by
    have w:∀b,b<n->(if b=r then 0 else gn p r q r b).natAbs<=272:=fun b y=>by
     by_cases e:b=r
     ·simp[e]
     ·have z:=s b y;simp only[nn e,if_false,gn,if_true];have:(p*q b).natAbs<=17*16:=by rw[eG];exact bK om om
      omega
    have H:=iX (fun b=>if b=r then 0 else gn p r q r b) a
    have l:=xX (n:=n-1) (fun b=>if b=r then 0 else gn p r q r b) (j:=r) om
    have A:=rP (n:=n-1) (f:=fun k=>(fun b=>if b=r then 0 else gn p r q r b) (skip r k)) (B:=272) (fun i C=>w _ (by have:=sj (j:=r) C;omega))
    have I:(n-1)*272<=4*272:=ay _ om;rw[(om:n-1+1=n)]at l
    simp only[if_true,Int.natAbs_zero]at l A;omega
   have J:(gn p r q r r).natAbs<=17*17:=by
    simp only[gn,if_true];rw[eG];exact bK om om
   omega
  ·rename_i e;rw[t8 a (fun j _ c=>by
    simp only[gn];by_cases m:j=piv
    ·simp[m,e]
    ·simp[m,e,ai c])]
   have:=t r a e;simp only[gn,e,if_true,if_false];omega
 ·rename_i a;rcases az r (n+n+1)with h|h
  ·rw[t8 (k:=r-n) om (fun j _ c=>by simp only[eg,a,if_false];rw[if_neg om])]
   simp only[eg,a,if_false];split<;>simp
  ·rw[t8 (k:=0) om (fun j c _=>by simp only[eg,a,if_false];rw[if_neg om])]
   simp only[eg,a,if_false];split<;>simp
def upOk:Bool:=(dY 6).all fun n=>(dY 6).all fun piv=>(dY 6).all fun k=>(dY 12).all fun r=>decide (n<k)||decide (r<k)||decide (iz (k+1) (fun a=>yD n piv (if a<k then a else r))<=1974558465)
def cofOk:Bool:=(dY 6).all fun n=>(dY 6).all fun piv=>(dY 6).all fun i=>decide (n<=i)||decide (n<=piv)||decide (iz (n+1) (fun a=>if a=i then 1 else yD n piv (rZ n n a))<=59835105)
theorem FJ:upOk=true:=by decide +kernel
theorem EZ(c:n<6)(d:piv<6)(e:k<=n)(f:k<=r)(b:r<12):iz (k+1) (fun a=>yD n piv (if a<k then a else r))<=1974558465:=by
 have h:=FJ;unfold upOk at h;simp only[List.all_eq_true,List.mem_range]at h;have:=h n c piv d k om r b;simp only[Bool.or_eq_true,decide_eq_true_eq]at this;omega

def bz(x y:Nat):Int×Int×Int :=
 if h:y=0 then(x,1,0)else
  have:x%y<y:=dp _ (ml h)
  ((bz y (x%y)).1,(bz y (x%y)).2.2,(bz y (x%y)).2.1-((x/y:Nat):Int)*(bz y (x%y)).2.2)
termination_by y
theorem ni(x:Nat):bz x 0=((x:Int),1,0):=by rw[bz];simp
theorem sT(x:Nat){y:Nat}(h:y≠0):bz x y=((bz y (x%y)).1,(bz y (x%y)).2.2,(bz y (x%y)).2.1-((x/y:Nat):Int)*(bz y (x%y)).2.2):=by
 rw[bz];simp[h]
theorem IR:∀(n x y:Nat),y<=n->(bz x y).1=(bz x y).2.1*x+(bz x y).2.2*y:=by
 intro n
 induction n with
 | zero=>intro x y h;rw[(om:y=0),ni];simp
 | succ n ih =>
  intro x y h;by_cases a:y=0
  ·rw[a,ni];simp
  ·have b:=ih y (x%y) (by have:=dp x (ml a);omega)
   rw[sT x a];simp only;rw[b];have e:(x:Int)=((x/y:Nat):Int)*y+((x%y:Nat):Int):=by
    have:=dz x y;rw[av]at this
    exact_mod_cast this.symm
   generalize ((x/y:Nat):Int)=q at *;generalize ((x%y:Nat):Int)=r at *;rw[e];grind
theorem IS:∀(n x y:Nat),y<=n->(bz x y).1∣(x:Int)/\(bz x y).1∣(y:Int):=by
 intro n
 induction n with
 | zero=>intro x y h;rw[(om:y=0),ni];exact⟨jV _,lg _⟩
 | succ n ih =>
  intro x y h;by_cases a:y=0
  ·rw[a,ni];exact⟨jV _,lg _⟩
  ·have b:=ih y (x%y) (by have:=dp x (ml a);omega)
   rw[sT x a];refine⟨?_,b.1⟩;have e:(x:Int)=(y:Int)*((x/y:Nat):Int)+((x%y:Nat):Int):=by exact_mod_cast (dz x y).symm
   rw[e];exact jk (im b.1) b.2
theorem Ei:∀(n x y:Nat),y<=n->(0<x∨0<y)->0<(bz x y).1/\(bz x y).1<=max x y:=by
 intro n
 induction n with
 | zero=>intro x y h h';rw[(om:y=0),ni];simp only;omega
 | succ n ih =>
  intro x y h h';by_cases a:y=0
  ·rw[a,ni];simp only;omega
  ·have b:=dp x (ml a);have c:=ih y (x%y) om om;rw[sT x a];simp only;omega
theorem IT:∀(n x y:Nat),y<=n->0<y->((bz x y).2.1).natAbs<=y/\((bz x y).2.2).natAbs<=max 1 x:=by
 intro n
 induction n with
 | zero=>intro x y h h';omega
 | succ n ih =>
  intro x y h h';have b:=dp x h';rw[sT x om];simp only;by_cases a:x%y=0
  ·rw[a,ni];simp only;omega
  ·have c:=ih y (x%y) om om;have e:=dz x y;have d:(((x/y:Nat):Int)*(bz y (x%y)).2.2).natAbs<=x/y*y:=by
    rw[eG,Int.natAbs_natCast];exact aQ _ om
   rw[av]at e;omega
structure Lo(x0 y0 x y:Nat)(a b na nb:Int):Prop where
 fa:a*(bz x y).2.1+na*(bz x y).2.2=(bz x0 y0).2.1
 fb:b*(bz x y).2.1+nb*(bz x y).2.2=(bz x0 y0).2.2
 fd:(bz x y).1=(bz x0 y0).1
 pos:0<x∨0<y
 sa:na.natAbs*x+a.natAbs*y=y0
 sb:nb.natAbs*x+b.natAbs*y=x0
 ga:(0<=a/\na<=0)∨(a<=0/\0<=na)
 gb:(0<=b/\nb<=0)∨(b<=0/\0<=nb)
 la:a.natAbs<=max 1 y0
 lb:b.natAbs<=max 1 x0
 lna:na.natAbs<=max 1 y0
 lnb:nb.natAbs<=max 1 x0
 lx:x<=max x0 y0
 ly:y<=max x0 y0
theorem Lo.init(h:0<x0∨0<y0):Lo x0 y0 x0 y0 1 0 0 1:=by
 refine⟨sm,sm,rfl,h,sm,sm,sm,sm,by simp;omega,sm,sm,by simp;omega,om,om⟩
theorem xn{q:Int}(c:0<=q)(h:(0<=a/\b<=0)∨(a<=0/\0<=b)):(a-q*b).natAbs=a.natAbs+q.natAbs*b.natAbs/\((0<=b/\a-q*b<=0)∨(b<=0/\0<=a-q*b)):=by
 rcases h with⟨f,d⟩|⟨f,d⟩
 ·have e:0<=q*(-b):=dA c om;rw[oL]at e;rw[<-eG];omega
 ·have e:0<=q*b:=dA c d;rw[<-eG];omega
theorem Lo.step{x y:Nat}{nb:Int}(h:Lo x0 y0 x y a b na nb)(j:y≠0):Lo x0 y0 y (x%y) na nb (a-((x/y:Nat):Int)*na) (b-((x/y:Nat):Int)*nb):=by
 have e:=dz x y;have f:=sT x j;have g:=xn (q:=((x/y:Nat):Int)) (di _) h.ga;have i:=xn (q:=((x/y:Nat):Int)) (di _) h.gb;rw[Int.natAbs_natCast]at g i;have sa:(a-((x/y:Nat):Int)*na).natAbs*y+na.natAbs*(x%y)=y0:=by
  rw[g.1];have:=h.sa;generalize x/y=q at *;generalize x%y=r at *;subst e;rw[<-this];grind
 have sb:(b-((x/y:Nat):Int)*nb).natAbs*y+nb.natAbs*(x%y)=x0:=by
  rw[i.1];have:=h.sb;generalize x/y=q at *;generalize x%y=r at *;subst e;rw[<-this];grind
 have k:∀c d:Nat,c*y+d=y0->c<=y0:=fun c d h=>by
  have:c*1<=c*y:=aQ _ om;omega
 have l:∀c d:Nat,c*y+d=x0->c<=x0:=fun c d h=>by
  have:c*1<=c*y:=aQ _ om;omega
 refine⟨?_,?_,?_,Or.inl om,sa,sb,g.2,i.2,h.lna,h.lnb,by have:=k _ _ sa;omega,by have:=l _ _ sb;omega,h.ly,by have:=h.ly;have:=dp x (ml j);omega⟩
 ·have:=h.fa;rw[f]at this;simp only at this;rw[<-this];grind
 ·have:=h.fb;rw[f]at this;simp only at this;rw[<-this];grind
 ·have:=h.fd;rw[f]at this;exact this
theorem Lo.fin{x:Nat}{nb:Int}(h:Lo x0 y0 x 0 a b na nb):bz x0 y0=((x:Int),a,b):=by
 have c:=h.fa;have d:=h.fb;have e:=h.fd;rw[ni]at c d e;simp only at c d e;ext<;>simp only<;>omega

theorem Ir{M:aB}(f:∀i j,i<n->j<n+1->w i j=M i j)(l:∀x,gO (n+1) (n+1) H x↔gO (n+1) (n+1) w x)(m:∀i,i<n->H i n=0)(y:ik):gO n n H y↔gO n (n+1) M y:=by
 constructor
 ·rintro⟨c,h⟩;obtain⟨d,k⟩:=(l (fun i=>aq (n+1) (fun j=>H i j*(if j<n then c j else 0)))).1 ⟨_,fun _ _=>rfl⟩
  refine⟨d,fun i a=>?_⟩;have b:(aq (n+1) fun j=>H i j*(if j<n then c j else 0))=aq (n+1) fun j=>w i j*d j:=k i om
  simp only[aq]at b;rw[aA (g:=fun j=>H i j*c j) (fun j e=>by rw[if_pos e]),<-h i a,if_neg (Nat.lt_irrefl n)]at b
  simp only[aq];rw[aA (g:=fun j=>w i j*d j) (fun j e=>by rw[f i j a om]),<-f i n a om]
  omega
 ·rintro⟨d,k⟩;obtain⟨c,h⟩:=(l (fun i=>aq (n+1) (fun j=>w i j*d j))).2 ⟨d,fun _ _=>rfl⟩;refine⟨c,fun i a=>?_⟩;have b:(aq (n+1) fun j=>w i j*d j)=aq (n+1) fun j=>H i j*c j:=h i om;rw[k i a];rw[aA (g:=fun j=>M i j*d j) (fun j e=>by rw[f i j a e])]at b
  rw[b];simp only[aq];rw[m i a];simp
theorem Ge(g:1<=N)(n:∀j,j<N->gO N N w (fun i=>H i j)) :
  ∃U:aB,(∀i j,i<N->j<N->mm N w U i j=H i j)/\∀i j,i<N->j<N->mm N (jF N w) H i j=det N w*U i j:=by
 have d:∃U:aB,∀i j,i<N->j<N->mm N w U i j=H i j:=by
  have l:∀j,∃c:ik,j<N->∀i,i<N->H i j=aq N (fun k=>w i k*c k):=fun j=>by
   by_cases a:j<N
   ·obtain⟨c,d⟩:=n j a;exact⟨c,fun _=>d⟩
   ·exact⟨fun _=>0,fun h=>absurd h a⟩
  refine⟨fun k j=>gR (l j) k,fun i j b a=>?_⟩;exact(ef (l j) a i b).symm
 obtain⟨U,m⟩:=d;refine⟨U,m,fun i j b a=>?_⟩;rw[pM (A':=jF N w) (B':=mm N w U) (fun _ _=>rfl) (fun k e=>(m k j e a).symm),<-pN];unfold mm;rw[cp i b (fun k e f=>by
  have:=qU g w b e;unfold mm at this;rw[this,if_neg (ai f)];simp)]
 have:=qU g w b b;unfold mm at this;rw[this,if_pos rfl]

def vF:Nat->(Nat->Nat)->Nat
 | 0,_=>0
 | n+1,f=>vF n f+f n*4294967296^n
theorem je{f g:Nat->Nat}(h:∀i,i<n->f i=g i):vF n f=vF n g:=by
 induction n with
 | zero=>rfl
 | succ n ih=>simp only[vF];rw[ih fun i a=>h i om,h n om]
theorem r9{f:Nat->Nat}(h:∀i,i<n->f i<4294967296):vF n f<4294967296^n:=by
 induction n with
 | zero=>simp[vF]
 | succ n ih =>
  have b:=ih fun i c=>h i om;have a:=ay (4294967296^n) (show f n+1<=4294967296 by have:=h n om;omega)
  simp only[vF,bM];rw[ck]at a;omega
theorem BU(n:Nat)(f:Nat->Nat):vF (n+1) f=f 0+4294967296*vF n (fun i=>f (i+1)):=by
 induction n with
 | zero=>simp[vF]
 | succ n ih =>
  rw[show vF (n+1+1) f=vF (n+1) f+f (n+1)*4294967296^(n+1)from rfl,ih];simp only[vF,bM];generalize vF n (fun i=>f (i+1))=a;generalize 4294967296^n=p;rw[bU,show 4294967296*(f (n+1)*p)=f (n+1)*(p*4294967296) by rw[<-aZ,av 4294967296,aZ,av 4294967296]]
  omega
theorem G6:∀(l:List Nat),aY l=vF l.length (fun i=>l.getD i 0)
 | []=>rfl
 | x::l=>by
  rw[List.length_cons,BU,aY,G6 l];rfl
theorem pE(m k:Nat)(f:Nat->Nat):vF (m+k) f=vF m f+4294967296^m*vF k (fun i=>f (m+i)):=by
 induction k with
 | zero=>simp[vF]
 | succ k ih =>
  rw[<-Nat.add_assoc];simp only[vF];rw[ih,bU,Nat.pow_add,<-aZ,av (f (m+k)),aZ,av (f (m+k)),<-aZ];omega
theorem J7{P:Nat}(j:U=ul+(u2*18446744073709551616+u1*4294967296+u0)*P)(c:ul<P)(d:V=vl+(v1*4294967296+v0)*P)
  (e:g*v1+r=u2*4294967296+u1) (h:r*4294967296+u0<g*v0):U<g*V:=by
 have f:u2*18446744073709551616+u1*4294967296+u0+1<=g*(v1*4294967296+v0):=by
  rw[bU,<-aZ];generalize g*v1=a at *;generalize g*v0=b at *;omega
 have i:=ay P f;rw[ck]at i;have k:g*V=g*vl+g*(v1*4294967296+v0)*P:=by rw[d,bU,aZ]
 omega
theorem Id{P:Nat}(l:U=ul+(u2*18446744073709551616+u1*4294967296+u0)*P)(d:V=vl+(v1*4294967296+v0)*P)(c:vl<P)(f:0<v1)
  (e:g*v1+r=u2*4294967296+u1) (i:g<4294967296) (h:g*v0<=r*4294967296+u0):g*V<U+V:=by
 have j:g*(v1*4294967296+v0)<=u2*18446744073709551616+u1*4294967296+u0:=by
  rw[bU,<-aZ];generalize g*v1=a at *;generalize g*v0=b at *;omega
 have m:=ay P j;have n:g*V=g*vl+g*(v1*4294967296+v0)*P:=by rw[d,bU,aZ]
 have o:g*vl<=g*P:=aQ g (Nat.le_of_lt c);have p:=ay P (om:4294967296<=v1*4294967296+v0)
 have k:=ay P (show g+1<=4294967296 from i);rw[dO g 1 P,jR]at k;omega
theorem kn_q(h:g*V<U+V)(b:U<(g+1)*V):(g*V<=U/\U/V=g/\U%V=U-g*V)∨(U<g*V/\0<g/\U/V=g-1/\U%V=U+V-g*V):=by
 have c:0<V:=by
  rcases bC V with h|h
  ·subst h;simp at b
  ·exact h
 rw[ck]at b;rcases az U (g*V)with a|a
 ·refine Or.inr ⟨a,?_⟩
  cases g with
  | zero=>simp at a
  | succ g =>
   rw[ck]at *;have e:U=V*g+(U-g*V):=by rw[av];omega
   refine⟨om,?_,?_⟩
   ·rw[e,kg c,ei om];rfl
   ·rw[e,mb,eh om,av V g];omega
 ·refine Or.inl ⟨a,?_,?_⟩
  ·have e:U=V*g+(U-g*V):=by rw[av];omega
   rw[e,kg c,ei om];rfl
  ·have e:U=V*g+(U-g*V):=by rw[av];omega
   rw[e,mb,eh om,av V g];omega
theorem Ig(b:∀i,i<k+2->v i<4294967296)(h:vF (k+3) u<vF (k+2) v*4294967296):u (k+2)<=v (k+1):=by
 have g:=r9 (n:=k+1) (f:=v) fun i j=>b i om;have c:vF (k+2) v=vF (k+1) v+v (k+1)*4294967296^(k+1):=rfl;have d:vF (k+3) u=vF (k+2) u+u (k+2)*4294967296^(k+2):=rfl;rw[c,d,bM]at h;generalize 4294967296^(k+1)=p at *;rcases az (v (k+1)) (u (k+2))with a|a
 ·have e:=ay p (show v (k+1)+1<=u (k+2)from a);rw[ck]at e;have l:u (k+2)*(p*4294967296)=u (k+2)*p*4294967296:=(aZ _ _ _).symm;omega
 ·exact a
theorem rK(k:Nat)(u:Nat->Nat):vF (k+3) u=vF k u+(u (k+2)*18446744073709551616+u (k+1)*4294967296+u k)*4294967296^k:=by
 simp only[vF,bM];generalize 4294967296^k=p;rw[dO,dO,show u (k+1)*(p*4294967296)=u (k+1)*4294967296*p by rw[av p,aZ],show u (k+2)*(p*4294967296*4294967296)=u (k+2)*18446744073709551616*p by rw[aZ p,show(4294967296:Nat)*4294967296=18446744073709551616 from rfl,av p,<-aZ]]
 omega
theorem rJ(k:Nat)(v:Nat->Nat):vF (k+2) v=vF k v+(v (k+1)*4294967296+v k)*4294967296^k:=by
 simp only[vF,bM];generalize 4294967296^k=p;rw[dO,show v (k+1)*(p*4294967296)=v (k+1)*4294967296*p by rw[av p,aZ]]
 omega
structure KG(k:Nat)(u v:Nat->Nat)(g r:Nat):Prop where
 eq:g*v (k+1)+r=u (k+2)*4294967296+u (k+1)
 le:vF (k+3) u<(g+1)*vF (k+2) v
theorem KG.init(c:0<v (k+1))(b:∀i,i<k+3->u i<4294967296):KG k u v ((u (k+2)*4294967296+u (k+1))/v (k+1)) ((u (k+2)*4294967296+u (k+1))%v (k+1)):=by
 have e:=dz (u (k+2)*4294967296+u (k+1)) (v (k+1));have j:=dp (u (k+2)*4294967296+u (k+1)) c;rw[av]at e;refine⟨e,?_⟩;generalize (u (k+2)*4294967296+u (k+1))/v (k+1)=q at *;generalize (u (k+2)*4294967296+u (k+1))%v (k+1)=r at *;rw[rK,rJ];have l:=r9 (n:=k) (f:=u) fun i m=>b i om;have o:=b k om;generalize 4294967296^k=p at *;have d:u (k+2)*18446744073709551616+u (k+1)*4294967296+u k+1<=(q+1)*(v (k+1)*4294967296+v k):=by
  have g:(q+1)*(v (k+1)*4294967296)=(q*v (k+1)+v (k+1))*4294967296:=by rw[<-aZ,ck]
  rw[bU,g];generalize q*v (k+1)=a at *;have:=Nat.zero_le ((q+1)*v k);omega
 have h:=ay p d;rw[ck]at h;rw[bU,<-aZ];omega
theorem KG.step(h:KG k u v g r)(c:∀i,i<k+3->u i<4294967296)(d:vF (k+3) u<vF (k+2) v*4294967296)(a:4294967296<=g∨r*4294967296+u k<g*v k):0<g/\KG k u v (g-1) (r+v (k+1)):=by
 have b:vF (k+3) u<g*vF (k+2) v:=by
  rcases a with a|a
  ·have:=ay (vF (k+2) v) a;rw[av]at d;omega
  ·exact J7 (rK k u) (r9 fun i e=>c i om) (rJ k v) h.eq a
 cases g with
 | zero=>simp at b
 | succ g =>
  refine⟨om,⟨?_,by simpa using b⟩⟩
  have:=h.eq;rw[ck]at this;simp only[fO];omega
theorem KG.g_lt(h:KG k u v g r)(b:u (k+2)<=v (k+1))(c:u (k+1)<4294967296)(d:4294967296<=r):g<4294967296:=by
 rcases az g 4294967296 with a|a
 ·exact a
 ·have e:=ay (v (k+1)) a;have:=h.eq;omega
theorem KG.last(h:KG k u v g r)(a:∀i,i<k+2->v i<4294967296)(b:0<v (k+1))(c:g<4294967296)(d:g*v k<=r*4294967296+u k):g*vF (k+2) v<vF (k+3) u+vF (k+2) v :=
 Id (rK k u) (rJ k v) (r9 fun i e=>a i om) b h.eq c d
theorem KG.big{uk:Nat}(b:v k<4294967296)(c:g<4294967296)(a:4294967296<=r):g*v k<=r*4294967296+uk:=by
 have d:=bK (om:g<=4294967296) (om:v k<=4294967296)
 have e:=ay 4294967296 a;omega

theorem Mp{bor:Nat}(h:vF i q+g*vF i v=vF i u+(bor+car)*4294967296^i)(k:bor<=1)(l:u i<4294967296)
  (d:∀m,m<i->q' m=q m) (e:q' i=(u i+18446744073709551616-(car+g*v i)%4294967296-bor)%4294967296) :
  (u i+18446744073709551616-(car+g*v i)%4294967296-bor)%18446744073709551616/9223372036854775808<=1/\q' i<4294967296 /\
  vF (i+1) q'+g*vF (i+1) v=vF (i+1) u+((u i+18446744073709551616-(car+g*v i)%4294967296-bor)%18446744073709551616/9223372036854775808+(car+g*v i)/4294967296)*4294967296^(i+1):=by
 have n:=dz (car+g*v i) 4294967296;have o:=dp (car+g*v i) (om:0<4294967296)
 generalize hlo:(car+g*v i)%4294967296=lo at *;generalize (car+g*v i)/4294967296=a at *;have b:(u i+18446744073709551616-lo-bor)%18446744073709551616/9223372036854775808<=1:=om
 have hlimb:q' i+lo+bor=u i+(u i+18446744073709551616-lo-bor)%18446744073709551616/9223372036854775808*4294967296:=by
  rw[e];rcases az (u i) (lo+bor)with f|f<;>omega
 generalize (u i+18446744073709551616-lo-bor)%18446744073709551616/9223372036854775808=c at *;refine⟨b,om,?_⟩
 simp only[vF,bM];rw[je d,bU,<-aZ];generalize 4294967296^i=p at *;generalize g*v i=gv at *;have j:(q' i+gv)*p+(bor+car)*p=u i*p+(c+a)*(p*4294967296):=by
  rw[show(c+a)*(p*4294967296)=(c+a)*4294967296*p by rw[av p,aZ],<-dO,<-dO]
  congr 1;omega
 rw[dO]at j;omega
theorem Ms(h:vF i q+car*4294967296^i=vF i u+vF i v)
  (b:∀m,m<i->q' m=q m) (c:q' i=(car+(u i+v i))%4294967296) :
  vF (i+1) q'+(car+(u i+v i))/4294967296*4294967296^(i+1)=vF (i+1) u+vF (i+1) v:=by
 have d:=dz (car+(u i+v i)) 4294967296;rw[<-c]at d;generalize (car+(u i+v i))/4294967296=a at *;simp only[vF,bM];rw[je b];generalize 4294967296^i=p at *;have e:q' i*p+a*(p*4294967296)=u i*p+v i*p+car*p:=by
  rw[show a*(p*4294967296)=a*4294967296*p by rw[av p,aZ],<-dO,<-dO,<-dO]
  congr 1;omega
 omega
theorem J9{b:Nat}(c:KG k u v g r)(h:vF (k+3) q+g*vF (k+2) v=vF (k+3) u+b*4294967296^(k+3))(d:b=0) :
  g=vF (k+3) u/vF (k+2) v/\vF (k+3) q=vF (k+3) u%vF (k+2) v:=by
 rw[d,ug,cn (vF (k+3) u)]at h;have e:=c.le;rw[ck]at e;have f:vF (k+3) u=vF (k+2) v*g+vF (k+3) q:=by rw[<-h,av];omega
 have a:vF (k+3) q<vF (k+2) v:=om
 rw[f];exact⟨by rw[kg om,ei a];rfl,by rw[mb,eh a]⟩
theorem J8{c b:Nat}{q2:Nat->Nat}(e:KG k u v g r)(f:g*vF (k+2) v<vF (k+3) u+vF (k+2) v)(j:∀i,i<k+3->q i<4294967296)(d:∀i,i<k+3->q2 i<4294967296)(l:∀i,i<k+2->v i<4294967296)
  (h:vF (k+3) q+g*vF (k+2) v=vF (k+3) u+b*4294967296^(k+3)) (m:b=1) (t:vF (k+3) q2+c*4294967296^(k+3)=vF (k+3) q+vF (k+2) v) :
  0<g/\g-1=vF (k+3) u/vF (k+2) v/\vF (k+3) q2=vF (k+3) u%vF (k+2) v:=by
 rw[m,jR]at h;have w:=r9 j;have x:=r9 d;have y:=r9 l;have z:(4294967296:Nat)^(k+2)<=4294967296^(k+3):=Nat.pow_le_pow_right om om;have A:vF (k+3) u<g*vF (k+2) v:=om
 have n:=kn_q f e.le;rcases n with⟨B,_⟩|⟨_,o,p,s⟩
 ·omega
 refine⟨o,p.symm,?_⟩;rw[s];have a:vF (k+3) q2+c*4294967296^(k+3)=(vF (k+3) u+vF (k+2) v-g*vF (k+2) v)+4294967296^(k+3):=om
 generalize 4294967296^(k+3)=M at *
 match c,a with
 | 0,a=>omega
 | 1,a=>omega
 | c+2,a =>
  have:(c+2)*M=c*M+2*M:=dO _ _ _;omega
def frm(f:Nat->Nat)(j:Nat):Nat->Nat:=fun t=>f (j+t)
theorem If{z:Nat}{r:Nat->Nat}(a:∀t,t<j->r' t=r t)(b:∀t,j+n+1<=t->r' t=r t) :
  vF (j+(n+1)+z) r'+4294967296^j*vF (n+1) (frm r j)=vF (j+(n+1)+z) r+4294967296^j*vF (n+1) (frm r' j):=by
 rw[pE (j+(n+1)) z r',pE (j+(n+1)) z r,pE j (n+1) r',pE j (n+1) r,je (n:=j) a,je (n:=z) (f:=fun i=>r' (j+(n+1)+i)) (g:=fun i=>r (j+(n+1)+i)) fun i _=>b _ om];show _+4294967296^j*vF (n+1) (frm r' j)+_+_=_+4294967296^j*vF (n+1) (frm r j)+_+_;omega
theorem vK{f:Nat->Nat}(h:∀i,i<n->f i=0):vF n f=0:=by
 induction n with
 | zero=>rfl
 | succ n ih=>simp only[vF];rw[ih fun i a=>h i om,h n om,ug]
structure DN(n m X V J:Nat)(q r:Nat->Nat):Prop where
 q0:∀t,t<J->q t=0
 sum:vF (m+n+1) r+vF (m+1) q*V=X
 rest:vF n (frm r J)<V
 top:∀t,J+n<=t->r t=0
 J:J<=m+1
theorem DN.init{r:Nat->Nat}(b:∀t,q t=0)(a:vF (m+n+1) r=X)(d:X<V*4294967296^(m+1))(e:∀t,m+n+1<=t->r t=0):DN n m X V (m+1) q r:=by
 refine⟨fun t _=>b t,by rw[vK (n:=m+1) fun i _=>b i];simpa using a,?_,fun t h=>e t om,om⟩
 rw[(om:m+n+1=m+1+n),pE]at a
 have c:4294967296^(m+1)*vF n (frm r (m+1))<=X:=by rw[<-a];exact Nat.le_add_left _ _
 rw[av]at c;exact Nat.lt_of_mul_lt_mul_right (Nat.lt_of_le_of_lt c d)
theorem DN.under{r:Nat->Nat}(h:DN n m X V (j+1) q r)(c:r j<4294967296):vF (n+1) (frm r j)<V*4294967296:=by
 rw[BU];have a:=h.rest;have b:vF n (fun i=>frm r j (i+1))=vF n (frm r (j+1)):=je fun i _=>by simp only[frm];congr 1;omega
 rw[b];show r j+_<_;have d:4294967296*(vF n (frm r (j+1))+1)<=4294967296*V:=aQ _ a;rw[av V];omega
theorem DN.step{r:Nat->Nat}(h:DN n m X V (j+1) q r)(F:V<=4294967296^n)(c:0<V)(l:∀t,t<j->r' t=r t)(k:∀t,j+n+1<=t->r' t=r t)(o:vF (n+1) (frm r' j)=vF (n+1) (frm r j)%V)
  (f:∀t,t≠j->q' t=q t) (g:q' j=vF (n+1) (frm r j)/V):DN n m X V j q' r':=by
 have G:=h.J;have s:=dp (vF (n+1) (frm r j)) c;have b:r' (j+n)=0:=by
  have e:vF (n+1) (frm r' j)=vF n (frm r' j)+r' (j+n)*4294967296^n:=rfl;rcases bC (r' (j+n))with a|a
  ·exact a
  ·have:=ay (4294967296^n) (show 1<=r' (j+n)from a);omega
 refine⟨fun t v=>by rw[f t om];exact h.q0 t om,?_,?_,fun t v=>?_,om⟩
 ·obtain⟨z,w⟩:∃z,m+n+1=j+(n+1)+z:=⟨m-j,om⟩
  have a:=If (z:=z) l k;rw[<-w]at a;have H:=h.sum;obtain⟨y,x⟩:∃y,m+1=j+1+y:=⟨m-j,om⟩
  have A:vF (m+1) q'=vF (m+1) q+q' j*4294967296^j:=by
   rw[x,pE,pE (j+1)];have B:vF (j+1) q'=q' j*4294967296^j:=by
    show vF j q'+_=_;rw[vK fun i C=>by rw[f i om];exact h.q0 i om];omega
   have D:vF (j+1) q=0:=vK fun i C=>h.q0 i om;have E:vF y (fun i=>q' (j+1+i))=vF y (fun i=>q (j+1+i)):=je fun i _=>f _ om;rw[B,D,E];omega
  rw[A,g,dO];have e:=dz (vF (n+1) (frm r j)) V;rw[<-o]at e;generalize vF (n+1) (frm r j)/V=d at *;generalize vF (n+1) (frm r j)=u at *;generalize vF (n+1) (frm r' j)=u' at *;generalize 4294967296^j=p at *;have I:p*u=d*p*V+p*u':=by
   rw[<-e,bU,av V d,<-aZ,av p d]
  omega
 ·have e:vF (n+1) (frm r' j)=vF n (frm r' j)+r' (j+n)*4294967296^n:=rfl;omega
 ·rcases az t (j+n+1)with a|a
  ·rw[(om:t=j+n)];exact b
  ·rw[k t a];exact h.top t om
theorem DN.last{r:Nat->Nat}(h:DN n m X V 0 q r):vF (m+1) q=X/V/\vF (m+n+1) r=X%V:=by
 have b:vF (m+n+1) r=vF n (frm r 0):=by
  rw[(om:m+n+1=n+(m+1)),pE,vK (n:=m+1) fun i _=>h.top _ om,Nat.mul_zero,cn]
  exact je fun i _=>by simp[frm]
 have a:=h.rest;have c:=h.sum;rw[b]at *;have e:X=V*vF (m+1) q+vF n (frm r 0):=by rw[av];omega
 rw[e];exact⟨by rw[kg om,ei a];rfl,by rw[mb,eh a]⟩

end Go.Proofs.YtdobfmlmenaajaaGreatDoor
