/-
  Lemmas for NeighbourRaw.
-/
import Derived.Test.YtdobfmlmenaajaaGreatDoorH11
namespace Go.Proofs.YtdobfmlmenaajaaGreatDoor
open Go.RowKit Tryz
open _root_.List renaming replicate→bU,getD→cT
open Tryz renaming prog→ah
open Value renaming int→dA
set_option maxHeartbeats 6400000
set_option maxRecDepth 4096
set_option linter.all false
variable{l ps qq qs rs vs ys:List Nat}{B B1 N V X b car g i j k m n s x z:Nat}{f q q' r r' u v xs y:Nat->Nat}{w w0 w1 w2 wr:World}{A:aI}
abbrev lf(l:List Nat):Nat->Nat:=fun i=>l.getD i 0
def MK{ps:Nat->Nat}(h:vF i ps+car*4294967296^i=vF i xs*2^s):vF i ps+(car+xs i*2^s)%4294967296*4294967296^i+(car+xs i*2^s)/4294967296*4294967296^(i+1)=vF (i+1) xs*2^s:=by
 have e:=Nat.mod_add_div (car+xs i*2^s) 4294967296;simp only[vF,cb];rw[dM,<-h];generalize (car+xs i*2^s)%4294967296=a at *;generalize (car+xs i*2^s)/4294967296=b at *;generalize 4294967296^i=p at *;have c:(a+4294967296*b)*p=(car+xs i*2^s)*p:=by rw[e]
 rw[dM,dM]at c;have d:b*(p*4294967296)=4294967296*b*p:=by rw[aA p,<-bC,aA b]
 have f:xs i*p*2^s=xs i*2^s*p:=by rw[bC,aA p,<-bC]
 omega
def C9:vF i (lf (ps.set i x))=vF i (lf ps):=jQ fun j a=>gj om
def rl(h:i<ps.length):lf (ps.set i x) i=x:=by simp[lf,cT,h]
def SF{a:Nat}(c:a<2^s):a ||| x*2^s=a+x*2^s:=by
 have h:=kC (i:=s) (b:=a) c x;rw[tu]at h;rw[Uz,<-h,kF]
def LA.start(w:World)(n:Nat):LA w.heap.size w (w.alloc (.cells (dK [] n) 136)) w.heap.size n (bU n 0):=by
 obtain⟨a,b⟩:=iA.start w n;refine⟨a,ae _,sm,fun x c=>by rw[(UN.1 c).2];omega,_,b,fun j d=>?_⟩
 rw[mp _ 0 j (by simp;omega)];simp
def si(A:Option Addr)(n c s L:Nat)(xs:List Nat)(w:World)(hn:n<=268435456)(hs:s<32)(hL:L<=w.heap.size)(hx:cG w L A n xs) :
  Calls ah 199 #[.slice A n c,.int .i64 s] w fun e w'=>∃c' ps,e=.returned (.slice (some ⟨w.heap.size,0,none⟩) (n+1:Nat) c')/\n+1<=c'/\LA w.heap.size w w' w.heap.size (n+1) ps/\vF (n+1) (lf ps)=vF n (lf xs)*2^s:=by
 have hmk:=DD (n+1) om;rw[show((n+1:Nat):Int)=(n:Int)+1 by omega]at hmk
 have HX:=ac hx;clear hx
 go_enter func199,ntmps199
 go_wp2;clear hmk;have hs0:¬(s:Int)<0:=om
 have hmin:min s 64=s:=om
 go_loopw [6,15] (fun cv iv wr=>∃(i car:Nat) (ps:List Nat),i<=n/\iv=.int .i64 i/\cv=.int .u64 car/\car<2^s/\Hid (LA w.heap.size w wr w.heap.size (n+1) ps)/\Hid (vF i (lf ps)+car*4294967296^i=vF i (lf xs)*2^s)) (fun _ iv _=>n-(intOf iv).toNat)
 case atStart=>exact⟨0,0,bU (n+1) 0,om,rfl,rfl,iY s,ac (LA.start w (n+1)),ac (by simp[vF])⟩
 case round =>
  obtain⟨i,car,ps,hi,rfl,rfl,hcar,HF,HS⟩:=hrel;by_cases hin:i<n
  .obtain⟨ad,x,rfl,hab,hxx,hx4,hcx⟩:=(HX.out.below HF.out.1 hL).at_ (k:=i) om;have HXX:=ac hxx;clear hxx;have hin':(i:Int)<n:=om
   have hin2:(i:Int)<(n:Int)+1:=om
   have hi0:(0:Int)<=i:=om
   obtain⟨hcp,hfp⟩:=HF.out.at_ (k:=i) om;generalize ps.getD i 0=pp at hcp;have hz:x*2^s<=4294967295*2^s/\(2:Nat)^s<=2147483648:=⟨aB _ om,cp om (om:s<=31)⟩
   have HO:Hid (bits .or .u64 (car:Int) (IntKind.u64.wrap ((x:Int)*2^s))=((car+x*2^s:Nat):Int)):=ac (by
    have e1:IntKind.u64.wrap ((x:Int)*2^s)=((x*2^s:Nat):Int):=by
     rw[show((x:Int)*2^s)=((x*2^s:Nat):Int) by rw[bD,Kc];rfl,cf]
     generalize 2^s=t at *;generalize x*t=z at *;omega
    rw[e1,yc _ _ (by generalize 2^s=t at *;omega) (by generalize 2^s=t at *;generalize x*t=z at *;omega),SF hcar])
   have hst:=MK HS.out;rw[show lf xs i=x from HXX.out]at hst;have hc2:(car+x*2^s)/4294967296<2^s:=by
    rw[xS om];generalize 2^s=t at *;generalize x*t=z at *;omega
   have HST:=ac hst;clear hst;have HZ:=ac hz;clear hz;go_wp2
   go_roundw
   case rel =>
    rw[HO.out];have hput:=HF.out.put (k:=i) (x:=(car+x*2^s)%4294967296) om om;refine⟨i+1,(car+x*2^s)/4294967296,_,om,by go_num,by go_num,hc2,ac (by simpa using hput),ac ?_⟩
    rw[<-HST.out];simp only[vF];rw[C9,rl (by rw[HF.out.2.2.1];omega)]
   case measure=>simp[intOf];omega
  .obtain rfl:i=n:=om
   obtain⟨hcp,hfp⟩:=HF.out.at_ (k:=i) om;generalize ps.getD i 0=pp at hcp;have hc4:(2:Nat)^s<=2147483648:=cp om (om:s<=31)
   have hcar4:car<4294967296:=om
   have HC4:=ac hc4;clear hc4;have hin2:(i:Int)<(i:Int)+1:=om
   have hput:=HF.out.put (k:=i) (x:=car) om hcar4;have HP:=ac hput;clear hput;go_wp2;go_ret;refine⟨i+1,by go_num,ae _,ps.set i car,by simpa using HP.out,?_⟩
   rw[<-HS.out];simp only[vF];rw[C9,rl (by rw[HF.out.2.2.1];omega)]
def MI{y:Nat}(c:x<4294967296)(f:s<32):2^s*((x+y*4294967296)/2^s%4294967296)+x%2^s=x+(y%2^s)*4294967296:=by
 have a:2^s*2^(32-s)=4294967296:=by rw[<-fJ,(om:s+(32-s)=32)]
 have b:=iY s;have g:=iY (32-s);generalize 2^s=P at *;generalize 2^(32-s)=Q at *;have d:(x+y*4294967296)/P=x/P+y*Q:=by
  rw[<-a,show y*(P*Q)=P*(y*Q) by rw[<-bC,aA y,bC],UB _ _ b]
 have e:y*Q=4294967296*(y/P)+y%P*Q:=by
  have h:=dd y P;rw[<-a];have:(P*(y/P)+y%P)*Q=y*Q:=by rw[h]
  rw[<-this,dM];congr 1;rw[bC,aA (y/P),<-bC]
 have i:x/P<Q:=by rw[xS b,aA,a];exact c
 have j:y%P*Q+Q<=4294967296:=by
  have h:=aB Q (dj y b);rw[cW,a]at h;exact h
 rw[d,e,(om:x/P+(4294967296*(y/P)+y%P*Q)=(x/P+y%P*Q)+4294967296*(y/P)),Om,dX om,cg]
 have k:=dd x P;have l:P*(y%P*Q)=y%P*4294967296:=by rw[<-a,<-bC,<-bC,aA P]
 omega
def Fk{x:Nat->Nat}(h:2^s*vF i y+x 0%2^s=vF i x+x i%2^s*4294967296^i)(a:x i<4294967296)(b:s<32)(c:y i=(x i+x (i+1)*4294967296)/2^s%4294967296):2^s*vF (i+1) y+x 0%2^s=vF (i+1) x+x (i+1)%2^s*4294967296^(i+1):=by
 have e:=MI (x:=x i) (y:=x (i+1)) a b;rw[<-c]at e;simp only[vF,cb];generalize 4294967296^i=p at *;have d:(2^s*y i+x i%2^s)*p=(x i+x (i+1)%2^s*4294967296)*p:=by rw[e]
 rw[dM,dM]at d;rw[cg,<-bC (2^s) (y i),show x (i+1)%2^s*(p*4294967296)=x (i+1)%2^s*4294967296*p by rw[bC,aA p]]
 omega
def Ib(h:l.length<=i):lf l i=0:=by simp[lf,cT,cH h]
def shrI(z s:Nat):(z:Int)/2^s%4294967296=((z/2^s%4294967296:Nat):Int):=by
 rw[lP,lQ,Kc];rfl
def tY(h:nh l)(i:Nat):lf l i<4294967296:=h.getD i
def MJ{x:Nat->Nat}(h:2^s*vF n y+x 0%2^s=vF n x+x n%2^s*4294967296^n)(b:x n=0):vF n y=vF n x/2^s:=by
 have a:=iY s;have c:=dj (x 0) a;rw[b,Nat.zero_mod,qA,cF]at h;rw[<-h,kO a,eO c];rfl
def zH(B:Nat)(w0 w:World)(g n c s:Nat)(xs:List Nat)(hn:n<=268435456)(hs:s<32)(h:LA B w0 w g n xs)(P:World->Prop)(hPc:∀(wr:World) (q:Nat) (u:Value),P wr->P (wr.setCell ⟨g,q,none⟩ u))(hP:P w) :
  Calls ah 201 #[.slice (some ⟨g,0,none⟩) n c,.int .i64 s] w fun e w'=>∃ps,e=.returned (.tuple #[])/\LA B w0 w' g n ps/\P w'/\vF n (lf ps)=vF n (lf xs)/2^s:=by
 have hxl:=h.2.2.1;have HL:=ac h.2.2.2.1;have HA:=ac h;clear h;have HPC:=ac hPc;clear hPc;have HP0:=ac hP;clear hP;have hs0:¬(s:Int)<0:=om
 have hmin:min s 64=s:=om
 go_enter func201,ntmps201
 go_wp2
 go_loopw [8] (fun iv wr=>∃(i:Nat) (ps:List Nat),i<=n/\iv=.int .i64 i/\Hid (LA B w0 wr g n ps)/\Hid (P wr)/\Hid (∀k,i<=k->lf ps k=lf xs k)/\Hid (2^s*vF i (lf ps)+lf xs 0%2^s=vF i (lf xs)+lf xs i%2^s*4294967296^i)) (fun iv _=>n-(intOf iv).toNat)
 case atStart=>exact⟨0,xs,om,rfl,HA,HP0,ac fun _ _=>rfl,ac (by simp[vF])⟩
 case round =>
  clear HA;obtain⟨i,ps,hi,rfl,HF,HPP,HK,HS⟩:=hrel;by_cases hin:i<n
  .obtain⟨hcp,hfp⟩:=HF.out.at_ (k:=i) hin;rw[show ps.getD i 0=lf xs i from HK.out i (ae _)]at hcp;have hx4:=tY HL.out i;have hin':(i:Int)<n:=om
   have hi0:(0:Int)<=i:=om
   by_cases hi1:i+1<n
   .obtain⟨hcq,hfq⟩:=HF.out.at_ (k:=i+1) hi1;rw[show ps.getD (i+1) 0=lf xs (i+1)from HK.out (i+1) om]at hcq;have hy4:=tY HL.out (i+1);have hsp:=Fk (y:=fun k=>if k=i then(lf xs i+lf xs (i+1)*4294967296)/2^s%4294967296 else lf ps k) (x:=lf xs) (i:=i) (s:=s) (by rw[<-HS.out];congr 2;exact jQ fun j hj=>af om) hx4 hs (ai rfl)
    generalize hxx:lf xs i=x at hcp hx4 hsp;generalize hyy:lf xs (i+1)=y at hcq hy4 hsp;have HO:Hid (bits .or .u64 (x:Int) ((y:Int)*4294967296)/2^s%4294967296=(((x+y*4294967296)/2^s%4294967296:Nat):Int)):=ac (by
     rw[show(y:Int)*4294967296=((y*4294967296:Nat):Int) by omega,yc _ _ om om,Hs hx4,shrI])
    have HSP:=ac hsp;clear hsp;have hi1':(i:Int)+1<n:=om
    go_wp2
    go_roundw
    case rel =>
     rw[HO.out];have hput:=HF.out.put (k:=i) (x:=(x+y*4294967296)/2^s%4294967296) om om;refine⟨i+1,_,om,by go_num,ac hput,ac (HPC.out _ _ _ HPP.out),ac fun k hk=>?_,ac ?_⟩
     .rw[lf,gj om];exact HK.out k om
     .rw[hyy,<-HSP.out];congr 2;simp only[vF,aQ];rw[C9,rl (by rw[HF.out.2.2.1];omega)]
      congr 1;exact jQ fun j hj=>(af om).symm
    case measure=>simp[intOf];omega
   .have hy0:lf xs (i+1)=0:=Ib om;have hsp:=Fk (y:=fun k=>if k=i then lf xs i/2^s%4294967296 else lf ps k) (x:=lf xs) (i:=i) (s:=s) (by rw[<-HS.out];congr 2;exact jQ fun j hj=>af om) hx4 hs (by rw[ai rfl,hy0,qA,cF])
    generalize hxx:lf xs i=x at hcp hx4 hsp;have HO:Hid ((x:Int)/2^s%4294967296=((x/2^s%4294967296:Nat):Int)):=ac (shrI x s);have HSP:=ac hsp;clear hsp;have hi1':¬(i:Int)+1<n:=om
    go_wp2
    go_roundw
    case rel =>
     rw[HO.out];have hput:=HF.out.put (k:=i) (x:=x/2^s%4294967296) om om;refine⟨i+1,_,om,by go_num,ac hput,ac (HPC.out _ _ _ HPP.out),ac fun k hk=>?_,ac ?_⟩
     .rw[lf,gj om];exact HK.out k om
     .rw[<-HSP.out];congr 2;simp only[vF,aQ];rw[C9,rl (by rw[HF.out.2.2.1];omega)]
      congr 1;exact jQ fun j hj=>(af om).symm
    case measure=>simp[intOf];omega
  .obtain rfl:i=n:=om
   have HE:=ac (MJ HS.out (Ib om));go_wp2;exact bodyPost_end (v:=.tuple #[]) (by simp[results,results201]) rfl ⟨ps,rfl,HF.out,HPP.out,HE.out⟩

def SS{qJ:Nat}(h:vF i q+g*vF i v=vF i u+(qJ+car)*4294967296^i)(k:qJ<=1)(l:u i<4294967296)
  (d:∀m,m<i->q' m=q m) (e:q' i=(u i+18446744073709551616-(car+g*v i)%4294967296-qJ)%4294967296) :
  (u i+18446744073709551616-(car+g*v i)%4294967296-qJ)%18446744073709551616/9223372036854775808<=1/\q' i<4294967296 /\
  vF (i+1) q'+g*vF (i+1) v=vF (i+1) u+((u i+18446744073709551616-(car+g*v i)%4294967296-qJ)%18446744073709551616/9223372036854775808+(car+g*v i)/4294967296)*4294967296^(i+1):=by
 have n:=dd (car+g*v i) 4294967296;have o:=dj (car+g*v i) (om:0<4294967296)
 generalize hlo:(car+g*v i)%4294967296=lo at *;generalize (car+g*v i)/4294967296=a at *;have b:(u i+18446744073709551616-lo-qJ)%18446744073709551616/9223372036854775808<=1:=om
 have hlimb:q' i+lo+qJ=u i+(u i+18446744073709551616-lo-qJ)%18446744073709551616/9223372036854775808*4294967296:=by
  rw[e];rcases aC (u i) (lo+qJ)with f|f<;>omega
 generalize (u i+18446744073709551616-lo-qJ)%18446744073709551616/9223372036854775808=c at *;refine⟨b,om,?_⟩
 simp only[vF,cb];rw[jQ d,cg,<-bC];generalize 4294967296^i=p at *;generalize g*v i=gv at *;have j:(q' i+gv)*p+(qJ+car)*p=u i*p+(c+a)*(p*4294967296):=by
  rw[show(c+a)*(p*4294967296)=(c+a)*4294967296*p by rw[aA p,bC],<-dM,<-dM]
  congr 1;omega
 rw[dM]at j;omega
def SW(h:vF i q+car*4294967296^i=vF i u+vF i v)
  (b:∀m,m<i->q' m=q m) (c:q' i=(car+(u i+v i))%4294967296) :
  vF (i+1) q'+(car+(u i+v i))/4294967296*4294967296^(i+1)=vF (i+1) u+vF (i+1) v:=by
 have d:=dd (car+(u i+v i)) 4294967296;rw[<-c]at d;generalize (car+(u i+v i))/4294967296=a at *;simp only[vF,cb];rw[jQ b];generalize 4294967296^i=p at *;have e:q' i*p+a*(p*4294967296)=u i*p+v i*p+car*p:=by
  rw[show a*(p*4294967296)=a*4294967296*p by rw[aA p,bC],<-dM,<-dM,<-dM]
  congr 1;omega
 omega
def PT{r:Nat}(c:KG k u v g r)(h:vF (k+3) q+g*vF (k+2) v=vF (k+3) u+b*4294967296^(k+3))(d:b=0) :
  g=vF (k+3) u/vF (k+2) v/\vF (k+3) q=vF (k+3) u%vF (k+2) v:=by
 rw[d,qA,cF (vF (k+3) u)]at h;have e:=c.le;rw[cW]at e;have f:vF (k+3) u=vF (k+2) v*g+vF (k+3) q:=by rw[<-h,aA];omega
 have a:vF (k+3) q<vF (k+2) v:=om
 rw[f];exact⟨by rw[kO om,eO a];rfl,by rw[mK,dX a]⟩
def PS{c:Nat}{q2:Nat->Nat}{r:Nat}(e:KG k u v g r)(f:g*vF (k+2) v<vF (k+3) u+vF (k+2) v)(j:∀i,i<k+3->q i<4294967296)(d:∀i,i<k+3->q2 i<4294967296)(l:∀i,i<k+2->v i<4294967296)
  (h:vF (k+3) q+g*vF (k+2) v=vF (k+3) u+b*4294967296^(k+3)) (m:b=1) (t:vF (k+3) q2+c*4294967296^(k+3)=vF (k+3) q+vF (k+2) v) :
  0<g/\g-1=vF (k+3) u/vF (k+2) v/\vF (k+3) q2=vF (k+3) u%vF (k+2) v:=by
 rw[m,mW]at h;have w:=tF j;have x:=tF d;have y:=tF l;have z:(4294967296:Nat)^(k+2)<=4294967296^(k+3):=cp om om;have A:vF (k+3) u<g*vF (k+2) v:=om
 have n:=kn_q f e.le;rcases n with⟨B,_⟩|⟨_,o,p,s⟩
 .omega
 refine⟨o,p.symm,?_⟩;rw[s];have a:vF (k+3) q2+c*4294967296^(k+3)=(vF (k+3) u+vF (k+2) v-g*vF (k+2) v)+4294967296^(k+3):=om
 generalize 4294967296^(k+3)=M at *
 match c,a with
 | 0,a=>omega
 | 1,a=>omega
 | c+2,a =>
  have:(c+2)*M=c*M+2*M:=dM _ _ _;omega
def jK(f:Nat->Nat)(j:Nat):Nat->Nat:=fun t=>f (j+t)
def No(a:∀t,t<j->r' t=r t)(b:∀t,j+n+1<=t->r' t=r t) :
  vF (j+(n+1)+z) r'+4294967296^j*vF (n+1) (jK r j)=vF (j+(n+1)+z) r+4294967296^j*vF (n+1) (jK r' j):=by
 rw[qW (j+(n+1)) z r',qW (j+(n+1)) z r,qW j (n+1) r',qW j (n+1) r,jQ (n:=j) a,jQ (n:=z) (f:=fun i=>r' (j+(n+1)+i)) (g:=fun i=>r (j+(n+1)+i)) fun i _=>b _ om];show _+4294967296^j*vF (n+1) (jK r' j)+_+_=_+4294967296^j*vF (n+1) (jK r j)+_+_;omega
def yq(h:∀i,i<n->f i=0):vF n f=0:=by
 induction n with
 | zero=>rfl
 | succ n ih=>simp only[vF];rw[ih fun i a=>h i om,h n om,qA]
structure DN(n m X V J:Nat)(q r:Nat->Nat):Prop where
 q0:∀t,t<J->q t=0
 sum:vF (m+n+1) r+vF (m+1) q*V=X
 rest:vF n (jK r J)<V
 top:∀t,J+n<=t->r t=0
 J:J<=m+1
def DN.init(b:∀t,q t=0)(a:vF (m+n+1) r=X)(d:X<V*4294967296^(m+1))(e:∀t,m+n+1<=t->r t=0):DN n m X V (m+1) q r:=by
 refine⟨fun t _=>b t,by rw[yq (n:=m+1) fun i _=>b i];simpa using a,?_,fun t h=>e t om,om⟩
 rw[(om:m+n+1=m+1+n),qW]at a
 have c:4294967296^(m+1)*vF n (jK r (m+1))<=X:=by rw[<-a];exact Vb _ _
 rw[aA]at c;exact Ma (ee c d)
def DN.under(h:DN n m X V (j+1) q r)(c:r j<4294967296):vF (n+1) (jK r j)<V*4294967296:=by
 rw[Fa];have a:=h.rest;have b:vF n (fun i=>jK r j (i+1))=vF n (jK r (j+1)):=jQ fun i _=>by simp only[jK];congr 1;omega
 rw[b];show r j+_<_;have d:4294967296*(vF n (jK r (j+1))+1)<=4294967296*V:=aM _ a;rw[aA V];omega
def DN.step(h:DN n m X V (j+1) q r)(F:V<=4294967296^n)(c:0<V)(l:∀t,t<j->r' t=r t)(k:∀t,j+n+1<=t->r' t=r t)(o:vF (n+1) (jK r' j)=vF (n+1) (jK r j)%V)
  (f:∀t,t≠j->q' t=q t) (g:q' j=vF (n+1) (jK r j)/V):DN n m X V j q' r':=by
 have G:=h.J;have s:=dj (vF (n+1) (jK r j)) c;have b:r' (j+n)=0:=by
  have e:vF (n+1) (jK r' j)=vF n (jK r' j)+r' (j+n)*4294967296^n:=rfl;rcases a6 (r' (j+n))with a|a
  .exact a
  .have:=aB (4294967296^n) (show 1<=r' (j+n)from a);omega
 refine⟨fun t v=>by rw[f t om];exact h.q0 t om,?_,?_,fun t v=>?_,om⟩
 .obtain⟨z,w⟩:∃z,m+n+1=j+(n+1)+z:=⟨m-j,om⟩
  have a:=No (z:=z) l k;rw[<-w]at a;have H:=h.sum;obtain⟨y,x⟩:∃y,m+1=j+1+y:=⟨m-j,om⟩
  have A:vF (m+1) q'=vF (m+1) q+q' j*4294967296^j:=by
   rw[x,qW,qW (j+1)];have B:vF (j+1) q'=q' j*4294967296^j:=by
    show vF j q'+_=_;rw[yq fun i C=>by rw[f i om];exact h.q0 i om];omega
   have D:vF (j+1) q=0:=yq fun i C=>h.q0 i om;have E:vF y (fun i=>q' (j+1+i))=vF y (fun i=>q (j+1+i)):=jQ fun i _=>f _ om;rw[B,D,E];omega
  rw[A,g,dM];have e:=dd (vF (n+1) (jK r j)) V;rw[<-o]at e;generalize vF (n+1) (jK r j)/V=d at *;generalize vF (n+1) (jK r j)=u at *;generalize vF (n+1) (jK r' j)=u' at *;generalize 4294967296^j=p at *;have I:p*u=d*p*V+p*u':=by
   rw[<-e,cg,aA V d,<-bC,aA p d]
  omega
 .have e:vF (n+1) (jK r' j)=vF n (jK r' j)+r' (j+n)*4294967296^n:=rfl;omega
 .rcases aC t (j+n+1)with a|a
  .rw[(om:t=j+n)];exact b
  .rw[k t a];exact h.top t om
def DN.last(h:DN n m X V 0 q r):vF (m+1) q=X/V/\vF (m+n+1) r=X%V:=by
 have b:vF (m+n+1) r=vF n (jK r 0):=by
  rw[(om:m+n+1=n+(m+1)),qW,yq (n:=m+1) fun i _=>h.top _ om,dS,cF]
  exact jQ fun i _=>by simp[jK]
 have a:=h.rest;have c:=h.sum;rw[b]at *;have e:X=V*vF (m+1) q+vF n (jK r 0):=by rw[aA];omega
 rw[e];exact⟨by rw[kO om,eO a];rfl,by rw[mK,dX a]⟩

def BZ(x bo y:Nat)(a:x<4294967296)(b:bo<=1)(c:y<4294967296) :
  IntKind.u64.wrap (IntKind.u64.wrap ((x:Int)-y)-bo)=((x+18446744073709551616-y-bo)%18446744073709551616:Nat):=by
 rw[cf,cf];omega
def LA.other{gv:Nat}(h:LA B w wr gv n ys)(b:B<=g)(a:gv≠g)(k:Nat)(u:Value):LA B w (wr.setCell ⟨g,k,none⟩ u) gv n ys:=by
 obtain⟨c,d,e,f,cs,i,j⟩:=h;exact⟨c.setCell (by exact b) _,d,e,f,cs,i.other a,j⟩
def LA.still{wr':World}(h:LA B w wr g n ps)(a:d9 wr wr'):LA B w wr' g n ps:=by
 obtain⟨b,c,d,e,cs,f,i⟩:=h;exact⟨b.trans (a.below B),c,d,e,cs,by unfold gC at *;rw[a.heap];exact f,i⟩
def yD(h:f n=0):vF (n+1) f=vF n f:=by simp only[vF,h,qA,cF]
def JN{qJ u v:Nat}(h:vF i (jK (lf qs) j)+g*vF i (lf ys)=vF i (jK (lf ps) j)+(qJ+car)*4294967296^i)(d:qJ<=1)(e:u<4294967296)
  (b:lf ps (j+i)=u) (f:lf ys i=v) (k:g*v=z) (l:j+i<qs.length) :
  (u+18446744073709551616-(car+z)%4294967296-qJ)%18446744073709551616/9223372036854775808<=1 /\
  vF (i+1) (jK (lf (qs.set (j+i) ((u+18446744073709551616-(car+z)%4294967296-qJ)%4294967296))) j)+g*vF (i+1) (lf ys) =
   vF (i+1) (jK (lf ps) j)+((u+18446744073709551616-(car+z)%4294967296-qJ)%18446744073709551616/9223372036854775808+(car+z)/4294967296)*4294967296^(i+1):=by
 subst k f;have a:jK (lf ps) j i=u:=b;have c:=SS (q':=jK (lf (qs.set (j+i) ((jK (lf ps) j i+18446744073709551616-(car+g*lf ys i)%4294967296-qJ)%4294967296))) j) h d (by rw[a];exact e) (fun m n=>by
  unfold jK;exact gj om) (by
  generalize (jK (lf ps) j i+18446744073709551616-(car+g*lf ys i)%4294967296-qJ)%4294967296=x;unfold jK;exact rl l)
 rw[a]at c;exact⟨c.1,c.2.2⟩
def PQ{qJ u W:Nat}(h:vF n (jK (lf qs) j)+g*vF n (lf ys)=vF n (jK (lf ps) j)+(qJ+car)*4294967296^n)(e:qJ<=1)(f:u<4294967296)
  (a:lf ps (j+n)=u) (b:lf ys n=0) (c:car<4294967296) (i:j+n<qs.length) (k:W=(u+18446744073709551616-car-qJ)%18446744073709551616) {m:Nat} (l:n+1=m) :
  W/9223372036854775808<=1/\vF m (jK (lf (qs.set (j+n) (W%4294967296))) j)+g*vF n (lf ys)=vF m (jK (lf ps) j)+W/9223372036854775808*4294967296^m:=by
 subst l;have d:=JN h e f a b (dS g) i;rw[show car+0=car from rfl,dX c,eO c,cF,<-k,yD b,show(u+18446744073709551616-car-qJ)%4294967296=W%4294967296 by omega]at d
 exact d
def JO{u v:Nat}(h:vF i (jK (lf rs) j)+car*4294967296^i=vF i (jK (lf qq) j)+vF i (lf ys))(c:lf qq (j+i)=u)(d:lf ys i=v)(e:j+i<rs.length) :
  vF (i+1) (jK (lf (rs.set (j+i) ((car+(u+v))%4294967296))) j)+(car+(u+v))/4294967296*4294967296^(i+1)=vF (i+1) (jK (lf qq) j)+vF (i+1) (lf ys):=by
 subst d;have a:jK (lf qq) j i=u:=c;have b:=SW (q':=jK (lf (rs.set (j+i) ((car+(jK (lf qq) j i+lf ys i))%4294967296))) j) h (fun m f=>by
  unfold jK;exact gj om) (by
  generalize (car+(jK (lf qq) j i+lf ys i))%4294967296=x;unfold jK;exact rl e)
 rw[a]at b;exact b
def PV{u:Nat}(h:vF n (jK (lf rs) j)+car*4294967296^n=vF n (jK (lf qq) j)+vF n (lf ys))(c:lf qq (j+n)=u)(a:lf ys n=0)(f:car<4294967296)(d:j+n<rs.length){m:Nat}(e:n+1=m) :
  vF m (jK (lf (rs.set (j+n) ((u+car)%4294967296))) j)+(u+car)/4294967296*4294967296^m=vF m (jK (lf qq) j)+vF n (lf ys):=by
 subst e;have b:=JO h c a d;rw[cF u,kF car u,yD a]at b;exact b
def Aq(B:Nat)(w0 w:World)(g gv N M j k c1 c2:Nat)(ps ys:List Nat)(hN:N<=268435457)(hjk:j+k+3<=N)(hkM:k+3<=M)(hne:gv≠g)(hp:LA B w0 w g N ps)(hy:LA B w0 w gv M ys)
  (hv0:0<lf ys (k+1)) (hvt:lf ys (k+2)=0) (hU:vF (k+3) (jK (lf ps) j)<vF (k+2) (lf ys)*4294967296) (P:World->Prop) (hPs:∀wr wr',d9 wr wr'->P wr->P wr') (hPc:∀(wr:World) (q:Nat) (u:Value),P wr->P (wr.setCell ⟨g,q,none⟩ u)) (hP:P w) :
  Calls ah 200 #[.slice (some ⟨g,j,none⟩) (k+3) c1,.slice (some ⟨gv,0,none⟩) (k+2) c2] w fun e w'=>∃qs,e=.returned (.int .u32 ((vF (k+3) (jK (lf ps) j)/vF (k+2) (lf ys):Nat):Int))/\LA B w0 w' g N qs/\LA B w0 w' gv M ys/\P w' /\
   (∀t,t<j∨j+k+3<=t->lf qs t=lf ps t)/\vF (k+3) (jK (lf qs) j)=vF (k+3) (jK (lf ps) j)%vF (k+2) (lf ys):=by
 have hlp:=tY hp.2.2.2.1;have hly:=tY hy.2.2.2.1;have hBg:=hp.2.1;have HPS:=ac hPs;clear hPs;have HPC:=ac hPc;clear hPc;have HP0:=ac hP;clear hP;obtain⟨a2,f2⟩:=hp.at_ (k:=j+(k+2)) om;obtain⟨a1,f1⟩:=hp.at_ (k:=j+(k+1)) om;obtain⟨a0,f0⟩:=hp.at_ (k:=j+k) om;obtain⟨d1,e1⟩:=hy.at_ (k:=k+1) om;obtain⟨d0,e0⟩:=hy.at_ (k:=k) om;have x2:=hlp (j+(k+2));have x1:=hlp (j+(k+1));have x0:=hlp (j+k);have y1:=hly (k+1);have y0:=hly k;have HK:=ac (KG.init (k:=k) (u:=jK (lf ps) j) (v:=lf ys) hv0 fun i _=>hlp _);have HFI:=ac (Np (k:=k) (u:=jK (lf ps) j) (v:=lf ys) (fun i _=>hly i) hU);have HHP:=ac hp;clear hp;have HHY:=ac hy;clear hy;have HU:=ac hU;clear hU;have HLP:=ac hlp;clear hlp;have HLY:=ac hly;clear hly;have HVT:=ac hvt;clear hvt;change w.cell? ⟨g,j+(k+2),none⟩=some (.int .u32 (lf ps (j+(k+2)):Nat))at a2;change w.cell? ⟨g,j+(k+1),none⟩=some (.int .u32 (lf ps (j+(k+1)):Nat))at a1;change w.cell? ⟨g,j+k,none⟩=some (.int .u32 (lf ps (j+k):Nat))at a0;change w.cell? ⟨gv,k+1,none⟩=some (.int .u32 (lf ys (k+1):Nat))at d1;change w.cell? ⟨gv,k,none⟩=some (.int .u32 (lf ys k:Nat))at d0;change Hid (KG k (jK (lf ps) j) (lf ys) ((lf ps (j+(k+2))*4294967296+lf ps (j+(k+1)))/lf ys (k+1)) ((lf ps (j+(k+2))*4294967296+lf ps (j+(k+1)))%lf ys (k+1)))at HK;generalize hX2:lf ps (j+(k+2))=X2 at a2 x2 HK;generalize hX1:lf ps (j+(k+1))=X1 at a1 x1 HK;generalize hX0:lf ps (j+k)=X0 at a0 x0;generalize hY1:lf ys (k+1)=Y1 at d1 y1 hv0 HK;generalize hY0:lf ys k=Y0 at d0 y0;have HX2:=ac hX2;clear hX2;have HX1:=ac hX1;clear hX1;have HX0:=ac hX0;clear hX0;have HY1:=ac hY1;clear hY1;have HY0:=ac hY0;clear hY0;have hv0':(Y1:Int)≠0:=om
 have hv0n:Y1≠0:=om
 have HO:=ac (qY x2 x1);have ST:=ac (show ∀wr,d9 w wr->(wr.cell? ⟨g,j+(k+2),none⟩=some (.int .u32 X2)/\wr.cell? ⟨g,j+k,none⟩=some (.int .u32 X0))/\wr.cell? ⟨gv,k+1,none⟩=some (.int .u32 Y1)/\wr.cell? ⟨gv,k,none⟩=some (.int .u32 Y0)from fun wr h=>⟨⟨(h.cell _).trans a2,(h.cell _).trans a0⟩,(h.cell _).trans d1,(h.cell _).trans d0⟩)
 go_enter func200,ntmps200
 go_wp2
 go_quiet (fail)
 go_wp2
 go_quiet (fail)
 clear a2 a1 a0 d1 d0 f2 f1 f0 e1 e0;go_wp2
 go_loopw [7,8] (fun gvv rvv wr=>∃(G R:Nat),gvv=.int .u64 G/\rvv=.int .u64 R/\R<4294967296/\G<18446744073709551616/\Hid (d9 w wr)/\Hid (KG k (jK (lf ps) j) (lf ys) G R)) (fun gvv _ _=>(intOf gvv).toNat)
 case atStart =>
  have hh:X2*4294967296+X1<18446744073709551616:=om
  have hq:=gK (X2*4294967296+X1) Y1;have hr:=dj (X2*4294967296+X1) hv0;refine⟨_,_,?_,?_,Nat.lt_trans hr y1,ee hq hh,ac (by repeat' (first|exact d9.refl _|apply d9.more)),HK⟩
  .rw[HO.out,fM (cA _),<-lQ,cf];generalize (X2*4294967296+X1)/Y1=q at *;congr 1;omega
  .rw[HO.out,aL (cA _),lP]
 case round =>
  obtain⟨G,R,rfl,rfl,hR,hG,HS,HKG⟩:=hrel;obtain⟨⟨a2,a0⟩,d1,d0⟩:=ST.out _ HS.out;clear HO HK x1 HX1;have hO2:=qY hR x0;obtain⟨Z,hZ⟩:∃Z,G*Y0=Z:=⟨_,rfl⟩;have hZi:(G:Int)*(Y0:Int)=(Z:Int):=by rw[<-hZ];simp
  have hZl:G<4294967296->Z<=18446744065119617025:=fun h=>hZ▸nT h y0;have hst:4294967296<=G∨R*4294967296+X0<Z->0<G/\Hid (KG k (jK (lf ps) j) (lf ys) (G-1) (R+Y1)):=fun h=>by
   have:=HKG.out.step (fun i _=>HLP.out _) HU.out (by rw[HY0.out,show jK (lf ps) j k=lf ps (j+k)from rfl,HX0.out,hZ];exact h)
   rw[HY1.out]at this;exact⟨this.1,ac this.2⟩
  have hbr:0<G->Hid (KG k (jK (lf ps) j) (lf ys) (G-1) (R+Y1))->4294967296<=R+Y1->Hid (G-1<4294967296/\(G-1)*vF (k+2) (lf ys)<vF (k+3) (jK (lf ps) j)+vF (k+2) (lf ys)/\∃r,KG k (jK (lf ps) j) (lf ys) (G-1) r):=fun h0 HK2 hr=>by
   have hF:=HK2.out.g_lt HFI.out (by rw[show jK (lf ps) j (k+1)=lf ps (j+(k+1))from rfl];exact HLP.out _) hr
   exact ac ⟨hF,HK2.out.last (fun i _=>HLY.out i) (by rw[HY1.out];exact hv0) hF (KG.big (HLY.out k) hF hr),_,HK2.out⟩
  have hen:G<4294967296->Z<=R*4294967296+X0->Hid (G<4294967296/\G*vF (k+2) (lf ys)<vF (k+3) (jK (lf ps) j)+vF (k+2) (lf ys)/\∃r,KG k (jK (lf ps) j) (lf ys) G r):=fun h0 h1 =>
   ac ⟨h0,HKG.out.last (fun i _=>HLY.out i) (by rw[HY1.out];exact hv0) h0 (by rw[HY0.out,show jK (lf ps) j k=lf ps (j+k)from rfl,HX0.out,hZ];exact h1),_,HKG.out⟩
  have HST:=ac hst;clear hst;have HBR:=ac hbr;clear hbr;have HEN:=ac hen;clear hen;have HZL:=ac hZl;clear hZl;clear hZ;rcases (show(4294967296<=G/\R+Y1<4294967296)∨(G<4294967296/\R*4294967296+X0<Z/\R+Y1<4294967296)∨(4294967296<=G/\4294967296<=R+Y1)∨(G<4294967296/\R*4294967296+X0<Z/\4294967296<=R+Y1)∨(G<4294967296/\Z<=R*4294967296+X0)from by omega)with h|h|h|h|h
  .obtain⟨hbig,hr⟩:=h;obtain⟨hg0,HK2⟩:=HST.out (bF hbig);have hs1:¬(G:Int)/4294967296=0:=om
   have hs2:((G:Int)/4294967296==0)=false:=by simpa using hs1
   have hs3:((G:Int)/4294967296 != 0)=true:=by simpa using hs1
   have hr1:((R:Int)+Y1)/4294967296=0:=om
   go_wp2
   go_quiet (fail)
   go_wp2
   go_roundw
   case rel=>exact⟨G-1,R+Y1,by go_num,by go_num,hr,om,ac (by repeat' (first|exact HS.out|apply d9.more)),HK2⟩
   case measure=>simp[intOf];omega
  .obtain⟨hsm,hlt,hr⟩:=h;obtain⟨hg0,HK2⟩:=HST.out (bH hlt);have hZl:=HZL.out hsm;have hs1:(G:Int)/4294967296=0:=om
   have hs2:((G:Int)/4294967296==0)=true:=by simpa using hs1
   have hs3:((G:Int)/4294967296 != 0)=false:=by simpa using hs1
   have hc1:bits .or .u64 ((R:Int)*4294967296) (X0:Int)<(Z:Int):=by rw[hO2];omega
   have hc2:decide (bits .or .u64 ((R:Int)*4294967296) (X0:Int)<(Z:Int))=true:=by simpa using hc1
   have hr1:((R:Int)+Y1)/4294967296=0:=om
   clear hO2;go_wp2
   go_quiet (fail)
   go_wp2
   go_roundw
   case rel=>exact⟨G-1,R+Y1,by go_num,by go_num,hr,om,ac (by repeat' (first|exact HS.out|apply d9.more)),HK2⟩
   case measure=>simp[intOf];omega
  all_goals first
   | (obtain⟨hbig,hr⟩:4294967296<=G/\4294967296<=R+Y1:=h
      obtain⟨hg0,HK2⟩:=HST.out (bF hbig);have HE:=HBR.out hg0 HK2 hr;have hs1:¬(G:Int)/4294967296=0:=om
      have hs2:((G:Int)/4294967296==0)=false:=by simpa using hs1
      have hs3:((G:Int)/4294967296 != 0)=true:=by simpa using hs1
      have hr1:¬((R:Int)+Y1)/4294967296=0:=om
      have hw:IntKind.u64.wrap ((G:Int)-1)=((G-1:Nat):Int):=by rw[cf];omega
      clear hO2 HK2)
   | (obtain⟨hsm,hlt,hr⟩:G<4294967296/\R*4294967296+X0<Z/\4294967296<=R+Y1:=h
      obtain⟨hg0,HK2⟩:=HST.out (bH hlt);have HE:=HBR.out hg0 HK2 hr;have hZl:=HZL.out hsm;have hs1:(G:Int)/4294967296=0:=om
      have hs2:((G:Int)/4294967296==0)=true:=by simpa using hs1
      have hs3:((G:Int)/4294967296 != 0)=false:=by simpa using hs1
      have hc1:bits .or .u64 ((R:Int)*4294967296) (X0:Int)<(Z:Int):=by rw[hO2];omega
      have hc2:decide (bits .or .u64 ((R:Int)*4294967296) (X0:Int)<(Z:Int))=true:=by simpa using hc1
      have hr1:¬((R:Int)+Y1)/4294967296=0:=om
      have hw:IntKind.u64.wrap ((G:Int)-1)=((G-1:Nat):Int):=by rw[cf];omega
      clear hO2 HK2)
   | (obtain⟨hsm,hge⟩:G<4294967296/\Z<=R*4294967296+X0:=h
      have HE:=HEN.out hsm hge;have hZl:=HZL.out hsm;have hs1:(G:Int)/4294967296=0:=om
      have hs2:((G:Int)/4294967296==0)=true:=by simpa using hs1
      have hs3:((G:Int)/4294967296 != 0)=false:=by simpa using hs1
      have hc1:¬bits .or .u64 ((R:Int)*4294967296) (X0:Int)<(Z:Int):=by rw[hO2];omega
      have hc2:decide (bits .or .u64 ((R:Int)*4294967296) (X0:Int)<(Z:Int))=false:=by simpa using hc1
      obtain⟨F,hF⟩:∃F,F=G:=⟨_,rfl⟩;subst hF;clear hO2)
  all_goals go_wp2
  all_goals go_quiet (fail)
  all_goals go_wp2
  all_goals try (have:=hg0;generalize G-1=F at HE ⊢)
  all_goals (
   clear HST HBR HEN HZL hZi;obtain⟨hF4,hFV,⟨rr,hKF⟩⟩:=HE.out;have HFV:=ac hFV;clear hFV;have HKF:=ac hKF;clear hKF
   go_loopw [9,10,83] (fun cv bv iv wr=>∃(i car qJ:Nat) (qs:List Nat),i<=k+2/\iv=.int .i64 i/\cv=.int .u64 car/\bv=.int .u64 qJ/\car<4294967296/\qJ<=1/\Hid (LA B w0 wr g N qs)/\Hid (LA B w0 wr gv M ys)/\Hid (P wr)/\Hid (∀t,t<j∨j+i<=t->lf qs t=lf ps t)/\Hid (vF i (jK (lf qs) j)+F*vF i (lf ys)=vF i (jK (lf ps) j)+(qJ+car)*4294967296^i)) (fun _ _ iv _=>(k+2)-(intOf iv).toNat))
  all_goals try exact⟨0,0,0,ps,om,rfl,rfl,rfl,om,om,ac (HHP.out.still (by repeat' (first|exact HS.out|apply d9.more))),ac (HHY.out.still (by repeat' (first|exact HS.out|apply d9.more))),ac (HPS.out w _ (by repeat' (first|exact HS.out|apply d9.more)) HP0.out),ac (fun _ _=>rfl),ac (by simp[vF])⟩
  all_goals (
   clear a2 a0 d1 d0;obtain⟨i,car,qJ,qs,hi,rfl,rfl,rfl,hcar,hbor,HA,HB,HPP,HQ,HV⟩:=hrel;by_cases hin:i<k+2
   .obtain⟨hcu,hfu⟩:=HA.out.at_ (k:=j+i) om;obtain⟨hcv,hfv⟩:=HB.out.at_ (k:=i) om;have hu4:=HLP.out (j+i);have hv4:=HLY.out i;rw[show qs.getD (j+i) 0=lf ps (j+i)from HQ.out _ (bH (ae _))]at hcu;change _=some (dA .u32 (lf ys i:Nat))at hcv;generalize hu:lf ps (j+i)=u at hcu hu4;generalize hv:lf ys i=v at hcv hv4;have hz4:=nT hF4 hv4;obtain⟨z,hz⟩:∃z,F*v=z:=⟨_,rfl⟩;rw[hz]at hz4;have hzi:(F:Int)*(v:Int)=(z:Int):=by rw[<-hz];simp
    have HSB:=ac (JN HV.out hbor hu4 hu hv hz (by rw[HA.out.2.2.1];omega))
    clear hz hu hv;have HW:=ac (show IntKind.u64.wrap (IntKind.u64.wrap ((u:Int)-((car:Int)+z)%4294967296)-qJ)=((u+18446744073709551616-(car+z)%4294967296-qJ)%18446744073709551616:Nat) by
     rw[show((car:Int)+z)%4294967296=(((car+z)%4294967296:Nat):Int) by omega]
     exact BZ u qJ ((car+z)%4294967296) hu4 hbor om)
    have hin':(i:Int)<(k:Int)+2:=om
    have hi0:(0:Int)<=i:=om
    go_wp2
    go_roundw
    case rel =>
     rw[HW.out,DM,H9];refine⟨i+1,(car+z)/4294967296,_,_,om,by go_num,by go_num,rfl,om,HSB.out.1,ac (HA.out.put (k:=j+i) om om),ac (HB.out.other HA.out.2.1 hne _ _),ac (HPC.out _ _ _ HPP.out),ac (fun t ht=>?_),ac HSB.out.2⟩
     rw[show lf (qs.set (j+i) _) t=lf qs t from gj om];exact HQ.out t om
    case measure=>simp[intOf];omega
   .obtain rfl:i=k+2:=om
    obtain⟨hcu,hfu⟩:=HA.out.at_ (k:=j+(k+2)) om;have hu4:=HLP.out (j+(k+2));rw[show qs.getD (j+(k+2)) 0=lf ps (j+(k+2))from HQ.out _ (bH (ae _))]at hcu;have hW0:=BZ (lf ps (j+(k+2))) qJ car hu4 hbor hcar;generalize hu:lf ps (j+(k+2))=u at hcu hu4 hW0;obtain⟨W,hW⟩:∃W,W=(u+18446744073709551616-car-qJ)%18446744073709551616:=⟨_,rfl⟩;have HSB:=ac (PQ HV.out hbor hu4 hu HVT.out hcar (by rw[HA.out.2.2.1];omega) hW (show k+2+1=k+3 from rfl))
    rw[<-hW]at hW0;have hW64:W<18446744073709551616:=om
    clear hW hu;have hput:=HA.out.put (k:=j+(k+2)) (x:=W%4294967296) om om;have hoth:=HB.out.other HA.out.2.1 hne (j+(k+2)) (.int .u32 ((W%4294967296:Nat):Int));have hout:∀t,t<j∨j+k+3<=t->lf (qs.set (j+(k+2)) (W%4294967296)) t=lf ps t:=fun t ht=>by
     rw[show lf (qs.set (j+(k+2)) _) t=lf qs t from gj om];exact HQ.out t om
    have HP:=ac hput;clear hput;have HOT:=ac hoth;clear hoth;have HPT:=ac (HPC.out _ (j+(k+2)) (.int .u32 ((W%4294967296:Nat):Int)) HPP.out);have HOU:=ac hout;clear hout;by_cases hb:W/9223372036854775808=0
    .have hb1:(W:Int)/9223372036854775808=0:=om
     obtain⟨k1,k2⟩:=PT HKF.out HSB.out.2 hb;have HK1:=ac k1;clear k1;have HK2:=ac k2;clear k2;clear HSB HKF HFV;go_wp2;go_ret;exact⟨_,by rw[<-HK1.out];rfl,by simpa using HP.out,by simpa using HOT.out,by simpa using HPT.out,HOU.out,HK2.out⟩
    .have hb1:¬(W:Int)/9223372036854775808=0:=om
     have hb2:W/9223372036854775808=1:=om
     have HQL:=ac (tY HP.out.2.2.2.1);have HSB0:=HSB;clear HSB;generalize hqq:qs.set (j+(k+2)) (W%4294967296)=qq at HSB0 HP HOU HQL;have hqx:lf qq (j+(k+2))=W%4294967296:=by rw[<-hqq,rl (by rw[HA.out.2.2.1];omega)]
     have HQX:=ac hqx;clear hqx;clear hqq HQ HV;go_wp2
     go_loopw [9,136] (fun cv iv wr=>∃(i car:Nat) (rs:List Nat),i<=k+2/\iv=.int .i64 i/\cv=.int .u64 car/\car<4294967296/\Hid (LA B w0 wr g N rs)/\Hid (LA B w0 wr gv M ys)/\Hid (P wr)/\Hid (∀t,t<j∨j+i<=t->lf rs t=lf qq t)/\Hid (vF i (jK (lf rs) j)+car*4294967296^i=vF i (jK (lf qq) j)+vF i (lf ys))) (fun _ iv _=>(k+2)-(intOf iv).toNat)
     case atStart=>exact⟨0,0,qq,om,rfl,rfl,om,ac (by simpa using HP.out),ac (by simpa using HOT.out),ac (by simpa using HPT.out),ac (fun _ _=>rfl),ac (by simp[vF])⟩
     case round =>
      clear HA HB HP HOT HPP HPT;obtain⟨i,car,rs,hi,rfl,rfl,hcar,HA,HB,HPP,HQ,HV⟩:=hrel;by_cases hin:i<k+2
      .obtain⟨hcu,hfu⟩:=HA.out.at_ (k:=j+i) om;obtain⟨hcv,hfv⟩:=HB.out.at_ (k:=i) om;have hu4:=HQL.out (j+i);have hv4:=HLY.out i;rw[show rs.getD (j+i) 0=lf qq (j+i)from HQ.out _ (bH (ae _))]at hcu;change _=some (dA .u32 (lf ys i:Nat))at hcv;generalize hu:lf qq (j+i)=u at hcu hu4;generalize hv:lf ys i=v at hcv hv4;have HSB:=ac (JO HV.out hu hv (by rw[HA.out.2.2.1];omega))
       clear hu hv;have hin':(i:Int)<(k:Int)+2:=om
       have hi0:(0:Int)<=i:=om
       go_wp2
       go_quiet (fail)
       go_wp2
       go_roundw
       case rel =>
        have hput:∀w',d9 wr w'->LA B w0 (w'.setCell ⟨g,j+i,none⟩ (.int .u32 (((car:Int)+((u:Int)+v))%4294967296))) g N (rs.set (j+i) ((car+(u+v))%4294967296)):=fun w' h=>by
         have:=(HA.out.still h).put (k:=j+i) (x:=(car+(u+v))%4294967296) om om;simpa using this
        have hoth:∀w',d9 wr w'->LA B w0 (w'.setCell ⟨g,j+i,none⟩ (.int .u32 (((car:Int)+((u:Int)+v))%4294967296))) gv M ys:=fun w' h=>(HB.out.still h).other HA.out.2.1 hne (j+i) _;refine⟨i+1,(car+(u+v))/4294967296,_,om,by go_num,by go_num,om,ac (hput _ (by repeat' (first|exact d9.refl _|apply d9.more))),ac (hoth _ (by repeat' (first|exact d9.refl _|apply d9.more))),ac (HPC.out _ _ _ (HPS.out wr _ (by repeat' (first|exact d9.refl _|apply d9.more)) HPP.out)),ac (fun t ht=>?_),HSB⟩
        rw[show lf (rs.set (j+i) _) t=lf rs t from gj om];exact HQ.out t om
       case measure=>simp[intOf];omega
      .obtain rfl:i=k+2:=om
       obtain⟨hcu,hfu⟩:=HA.out.at_ (k:=j+(k+2)) om;rw[show rs.getD (j+(k+2)) 0=W%4294967296 from(HQ.out _ (bH (ae _))).trans HQX.out]at hcu;have HSB:=ac (PV HV.out HQX.out HVT.out hcar (by rw[HA.out.2.2.1];omega) (show k+2+1=k+3 from rfl))
       have hput:=HA.out.put (k:=j+(k+2)) (x:=(W%4294967296+car)%4294967296) om om;have hoth:=HB.out.other HA.out.2.1 hne (j+(k+2)) (.int .u32 (((W%4294967296+car)%4294967296:Nat):Int));obtain⟨k0,k1,k2⟩:=PS HKF.out HFV.out (fun i _=>HQL.out _) (fun i _=>tY hput.2.2.2.1 _) (fun i _=>HLY.out i) HSB0.out.2 hb2 HSB.out;have HP:=ac hput;clear hput;have HOT:=ac hoth;clear hoth;have HPT:=ac (HPC.out _ (j+(k+2)) (.int .u32 (((W%4294967296+car)%4294967296:Nat):Int)) HPP.out);have HK1:=ac k1;clear k1;have HK2:=ac k2;clear k2;have hwr:IntKind.u64.wrap ((F:Int)-1)=((F-1:Nat):Int):=by rw[cf];omega
       have hw2:IntKind.u32.wrap ((W:Int)%4294967296+car)=(((W%4294967296+car)%4294967296:Nat):Int):=by rw[LV];omega
       have hF1:((F-1:Nat):Int)%4294967296=((F-1:Nat):Int):=om
       go_wp2;go_ret;refine⟨_,?_,by simpa using HP.out,by simpa using HOT.out,by simpa using HPT.out,fun t ht=>?_,HK2.out⟩
       .rw[<-HK1.out];first|rfl|trace_state
       .rw[show lf (rs.set (j+(k+2)) _) t=lf rs t from gj om];exact(HQ.out t om).trans (HOU.out t ht))

def LA.rebase(h:LA B1 w1 w2 g n ps)(b:Below B w0 w1)(a:B<=B1):LA B w0 w2 g n ps :=
 ⟨b.trans (h.1.mono a),bQ a h.2.1,h.2.2⟩
def LA.keep(h:LA B w0 w1 g n ps)(a:Below B1 w1 w2)(b:B<=B1)(c:g<B1):LA B w0 w2 g n ps:=by
 obtain⟨d,e,f,i,cs,j,k⟩:=h;exact⟨d.trans (a.mono b),e,f,i,cs,j.below a c,k⟩
def LA.lt(h:LA B w0 w1 g n ps):g<w1.heap.size:=by
 obtain⟨b,c,d,e,cs,a,f⟩:=h;exact a.lt
def zm(l:List Nat){n:Nat}(h:l.length=n):vF n (lf l)=aZ l:=by rw[Mu l,h]
def SV(y:2<=m)(c:ys.length=m)(q:nh ys)(ty:oW ys)(z:s<32)(d:ys.getD (m-1) 0*2^s<4294967296)(l:vF (m+1) (lf vs)=vF m (lf ys)*2^s)(g:V=aZ ys*2^s) :
  lf vs m=0/\vF m (lf vs)=V/\V<=4294967296^m/\0<V/\4294967296^(m-1)<=aZ ys:=by
 have t:ys≠[]:=by intro h;subst h;simp at c;omega
 have j:=sN ty t;rw[c]at j;have o:=iY s;rw[zm ys c,<-g]at l;have k:V<4294967296^m:=by
  obtain⟨r,rfl⟩:∃r,m=r+1:=⟨m-1,om⟩
  have u:aZ ys=vF r (lf ys)+lf ys r*4294967296^r:=by rw[<-zm ys c]<;>rfl
  have A:=tF (n:=r) (f:=lf ys) fun i _=>tY q i;have v:(lf ys r+1)*2^s<=4294967296:=by
   have p:2^(32-s)*2^s=4294967296:=by rw[<-fJ,(om:32-s+s=32)]
   have w:lf ys r<2^(32-s):=by
    have b:lf ys r*2^s<2^(32-s)*2^s:=by rw[p];exact d
    exact Ma b
   rw[<-p];exact aB _ w
  have x:aZ ys<(lf ys r+1)*4294967296^r:=by rw[u,cW];omega
  rw[g,cb]
  calc
   aZ ys*2^s<(lf ys r+1)*4294967296^r*2^s:=qB x o
   _=(lf ys r+1)*2^s*4294967296^r:=by rw[bC,aA (4294967296^r),<-bC]
   _<=4294967296*4294967296^r:=aB _ v
   _=_:=aA _ _
 have a:lf vs m=0:=by
  have e:vF (m+1) (lf vs)=vF m (lf vs)+lf vs m*4294967296^m:=rfl;rcases a6 (lf vs m)with b|b
  .exact b
  .have:=aB (4294967296^m) (show 1<=lf vs m from b);omega
 refine⟨a,by rw[<-yD a];exact l,dB k,?_,j⟩
 rw[g];exact IS (dF (iK om) j) o
def PU(b:4294967296^(k+1)<=aZ ys)(a:nh vs)(c:V=aZ ys*2^s)(d:vF (k+2) (lf vs)=V):0<lf vs (k+1):=by
 rcases a6 (lf vs (k+1))with h|h
 .rw[yD h]at d;have g:=tF (n:=k+1) (f:=lf vs) fun i _=>tY a i;have e:=a9 b (iY s);rw[r9,<-c]at e;omega
 .exact h
def Nn{M:Nat}{xs:List Nat}(i:1<=m)(a:aZ xs<4294967296^(M+m))(b:4294967296^(m-1)<=aZ ys)(c:V=aZ ys*2^s)(d:X=aZ xs*2^s):X<V*4294967296^(M+1):=by
 rw[d,c];have f:=iY s;have e:(4294967296:Nat)^(M+m)=4294967296^(m-1)*4294967296^(M+1):=by rw[<-fJ];congr 1;omega
 rw[e]at a;have j:=aB (4294967296^(M+1)) b;have g:aZ xs<aZ ys*4294967296^(M+1):=om
 have h:=qB g f;rw[bC (aZ ys),aA (2^s),<-bC];exact h
def SU{y:Nat}(b:V=y*2^s)(c:X=x*2^s):X/V=x/y/\X%V/2^s=x%y:=by
 have a:=iY s;subst b c;refine⟨Nat.mul_div_mul_right _ _ a,?_⟩;rw[Nat.mul_mod_mul_right,Nat.mul_div_cancel _ a]
def FV(A D:Option Addr)(M k c d L:Nat)(xs ys:List Nat)(w:World)(hn:M+(k+2)<=268435000)(h2:2<M+(k+2))(hL:L<=w.heap.size)(hx:cG w L A (M+(k+2)) xs)(hy:cG w L D (k+2) ys)(tx:oW xs)(ty:oW ys)
  (h0:0<aZ ys) (hge:¬aZ xs<aZ ys) :
  Calls ah 137 #[.slice A (M+(k+2)) c,.slice D (k+2) d] w (ns w (aZ xs/aZ ys) (aZ xs%aZ ys)):=by
 have hc:0<=li (aZ xs) (aZ ys):=by
  rcases aC (aZ ys) (aZ xs)with h|h
  .rw[kA h];omega
  .rw[lI om];omega
 have hmk:=DD (M+1) om;rw[show((M+1:Nat):Int)=(M:Int)+1 by omega]at hmk
 obtain⟨bd,rfl,hbdb,hcb⟩:=hy.2.2 om;have hcb0:=hcb (k+1) om;obtain⟨db,dof,dsp⟩:=bd;obtain rfl:dsp=none:=by simpa [Addr.add]using World.cell?_spot (hcb 0 om)
 rw[show(⟨db,dof,none⟩:Addr).add (k+1)=⟨db,dof+(k+1),none⟩from Addr.add_lit ..]at hcb0;have hy4:=hy.2.1.getD (k+1);have hyt:ys.getD (k+1) 0≠0:=by
  have hl:=hy.1;have hne:ys≠[]:=by intro h;subst h;simp at hl
  have e:=ty (ys.getLast hne) (IT hne);rw[List.getLast_eq_getElem]at e;simp only[hl]at e;rw[cT,a8 om];exact e
 have hxv:=jr hx.2.1;rw[hx.1]at hxv;clear hcb;have HX:=ac hx;clear hx;have HY:=ac hy;clear hy;have HTX:=ac tx;clear tx;have HTY:=ac ty;clear ty;have HXV:=ac hxv;clear hxv;generalize hcm:li (aZ xs) (aZ ys)=cm at hc;have Hcm:=ac hcm;clear hcm;generalize hty:ys.getD (k+1) 0=yt at hcb0 hy4 hyt;have HYT:=ac hty;clear hty;have HCB:=ac hcb0;clear hcb0;have hcn:¬cm<0:=om
 have hn2:¬(M:Int)+((k:Int)+2)<=2:=om
 have hn2':decide ((M:Int)+((k:Int)+2)<=2)=false:=by simpa using hn2
 have hk1:((k:Int)+2==1)=false:=by simp;omega
 have hk1':¬((k:Int)+2=1):=om
 clear hge
 go_enter RX,Of
 go_wp2_with fail
 refine(ik A (some ⟨db,dof,none⟩) (M+(k+2)) (k+2) c d L xs ys w om om HX.out HY.out HTX.out HTY.out).mono ?_;rintro e w1 ⟨rfl,hst⟩;rw[Hcm.out];have HB1:=ac (hst.below w.heap.size);have hcell:w1.cell? ⟨db,dof+(k+1),none⟩=some (.int .u32 yt):=(hst.cell _).trans HCB.out;clear hst;have HY1:=ac (HY.out.below HB1.out hL);have HX1:=ac (HX.out.below HB1.out hL);have hL1:L<=w1.heap.size:=bQ hL HB1.out.size
 go_wp2_with fail
 refine(KV yt w1 om hy4).mono ?_;rintro e w1' ⟨s,rfl,hs,hsh,rfl⟩
 go_wp2_with fail
 have hsz1:=HB1.out.size;refine(si (some ⟨db,dof,none⟩) (k+2) d s L ys w1' om hs hL1 HY1.out).mono ?_;rintro e w2 ⟨cv,vs,rfl,hcv,hlv,hvv⟩;obtain⟨V,hV⟩:∃V,V=aZ ys*2^s:=⟨_,rfl⟩;obtain⟨t1,t2,t3,t4,t5⟩:=SV (m:=k+2) om HY.out.1 HY.out.2.1 HTY.out hs (by rw[show k+2-1=k+1 from rfl,HYT.out];exact hsh) hvv hV
 have t6:=PU t5 hlv.2.2.2.1 hV t2;have HLV:=ac hlv;clear hlv;have HX2:=ac (HX1.out.below HLV.out.1 hL1);clear hcell hsh hvv
 go_wp2_with fail
 refine(si A (M+(k+2)) c s L xs w2 om hs (bQ hL1 HLV.out.1.size) HX2.out).mono ?_;rintro e w3 ⟨cr,rs,rfl,hcr,hlr,hvr⟩;rw[zm xs HX.out.1]at hvr;obtain⟨X,hX⟩:∃X,X=aZ xs*2^s:=⟨_,rfl⟩;have hXV:=Nn (m:=k+2) (M:=M) om HXV.out t5 hV hX;rw[<-hX]at hvr;obtain⟨f1,f2⟩:=SU hV hX;generalize hgv:w1'.heap.size=gv at HLV;generalize hgr:w2.heap.size=gr at hlr;have hgvr:gv<gr:=by rw[<-hgv,<-hgr];have:=HLV.out.lt;omega
 have HLV3:Hid (LA gv w1' w3 gv (k+2+1) vs):=ac (HLV.out.keep hlr.1 om hgvr);have HLR:Hid (LA gv w1' w3 gr (M+(k+2)+1) rs):=ac (hlr.rebase HLV.out.1 om);have hsz3:=hlr.1.size;clear hlr HLV;have HT:=ac (Bf t1 (Bf t2 (Bf t3 (Bf t4 t6))));clear t1 t2 t3 t4 t5 t6;have HF:=ac (Bf f1 f2);clear f1 f2;have HVR:=ac hvr;clear hvr;have HXV2:=ac hXV;clear hXV;clear hV hX;go_wp2;clear hmk;have hLQ:=LA.start w3 (M+1);generalize hgq:w3.heap.size=gq at hLQ;have hgq2:gr<gq:=by have:=HLR.out.lt;omega
 have HLQ:Hid (LA gv w1' (w3.alloc (.cells (dK [] (M+1)) 136)) gq (M+1) (bU (M+1) 0)):=ac (hLQ.rebase HLR.out.1 om);have HLV4:=ac (HLV3.out.keep hLQ.1 om om);have HLR4:=ac (HLR.out.keep hLQ.1 om hgq2);clear HLV3 HLR hLQ;have HDN:=ac (DN.init (n:=k+2) (m:=M) (X:=X) (V:=V) (q:=lf (bU (M+1) 0)) (r:=lf rs) (fun t=>by simp[lf,cT,tw];split<;>rfl) HVR.out HXV2.out (fun t ht=>Ib (by rw[HLR4.out.2.2.1];omega)))
 go_loopw [12] (fun jv wr=>∃(J:Nat) (qs rs:List Nat),J<=M+1/\jv=.int .i64 ((J:Int)-1)/\Hid (LA gv w1' wr gv (k+2+1) vs)/\Hid (LA gv w1' wr gr (M+(k+2)+1) rs)/\Hid (LA gv w1' wr gq (M+1) qs)/\Hid (DN (k+2) M X V J (lf qs) (lf rs))) (fun jv _=>(intOf jv+1).toNat)
 case atStart=>exact⟨M+1,_,rs,om,by go_num,HLV4,HLR4,HLQ,HDN⟩
 case round =>
  clear HLV4 HLR4 HLQ HDN;obtain⟨J,qs,rr,hJ,rfl,HLV,HLR,HLQ,HDN⟩:=hrel;rcases a6 J with h0J|h0J
  .subst h0J;obtain⟨g1,g2⟩:=HDN.out.last;rw[HF.out.1,zm qs HLQ.out.2.2.1]at g1;have HG1:=ac g1;clear g1;have HG2:=ac g2;clear g2
   go_wp2_with fail
   refine(zH gv w1' _ gr (M+(k+2)+1) _ s rr om hs HLR.out (fun w=>LA gv w1' w gq (M+1) qs) (fun _ _ _ h=>h.other om om _ _) HLQ.out).mono ?_;rintro e w5 ⟨ps,rfl,hA,hQ,hval⟩;rw[HG2.out,HF.out.2,zm ps hA.2.2.1]at hval;have HVA:=ac hval;clear hval;have HA5:=ac hA;clear hA;have HQ5:=ac hQ;clear hQ
   go_wp2_with fail
   refine(kP _ _ _ _ _ _ om om HQ5.out.u32).mono ?_;rintro e w' ⟨⟨k1,hk1,rfl,hU1,hT1,hv1⟩,rfl⟩;have HU1:=ac hU1;clear hU1;have HT1:=ac hT1;clear hT1;have HV1:=ac hv1;clear hv1
   go_wp2_with fail
   refine(kP _ _ _ _ _ _ om om HA5.out.u32).mono ?_;rintro e w' ⟨⟨k2,hk2,rfl,hU2,hT2,hv2⟩,rfl⟩;have HU2:=ac hU2;clear hU2;have HT2:=ac hT2;clear hT2;have HV2:=ac hv2;clear hv2;go_wp2;go_ret2;exact⟨_,k1,_,_,_,k2,_,_,rfl,om,om,HU1.out,HU2.out,HT1.out,HT2.out,HV1.out.trans HG1.out,HV2.out.trans HVA.out,HB1.out.trans (HA5.out.1.mono om)⟩
  .obtain⟨j,rfl⟩:∃j,J=j+1:=⟨J-1,om⟩
   have e1:((j+1:Nat):Int)-1=j:=om
   rw[e1];have hj0:(j:Int)≥0:=om
   have hjM:(j:Int)<(M:Int)+1:=om
   have hjs:(j:Int)+((k:Int)+2)+1<=(M:Int)+((k:Int)+2)+1:=om
   have hr4:=tY HLR.out.2.2.2.1;have hun:=HDN.out.under (hr4 j);have hV2:vF (k+2) (lf vs)=V:=HT.out.2.1;have hq4:vF (k+3) (jK (lf rr) j)/V<4294967296:=Nat.div_lt_of_lt_mul (by rw[aA];rw[aA];exact hun)
   have HQ4:=ac hq4;clear hq4;have HUN:=ac hun;clear hun;have HV2:=ac hV2;clear hV2;clear hr4
   go_wp2_with fail
   rw[(om:j+(k+2)+1-j=k+3)]
   refine(Aq gv w1' _ gr gv (M+(k+2)+1) (k+2+1) j k _ cv rr vs om om om om HLR.out HLV.out HT.out.2.2.2.2 HT.out.1 (by rw[HV2.out];exact HUN.out)
    (fun w=>LA gv w1' w gq (M+1) qs) (fun _ _ hs h=>h.still hs) (fun _ _ _ h=>h.other om om _ _) HLQ.out).mono ?_
   rintro e w5 ⟨rs',rfl,hA,hB,hQ,hout,hval⟩;rw[HV2.out]at hval ⊢;have hstep:=HDN.out.step (q':=lf (qs.set j (vF (k+3) (jK (lf rr) j)/V))) (r':=lf rs') HT.out.2.2.1 HT.out.2.2.2.1 (fun t ht=>hout t (bF ht)) (fun t ht=>hout t (bH om)) hval (fun t ht=>gj (aj ht)) (rl (by rw[HLQ.out.2.2.1];omega))
   have HST:=ac hstep;clear hstep;have HQ5:=HQ4;clear HQ4 hval;generalize vF (k+3) (jK (lf rr) j)/V=q at HST HQ5 ⊢;have hq4:=HQ5.out;obtain⟨hcq,hfq⟩:=hQ.at_ (k:=j) om;have hput:=hQ.put (k:=j) (x:=q) om hq4;have HPU:=ac hput;clear hput;have HA:=ac (hA.other (g:=gq) om om j (.int .u32 (q:Nat)));have HB:=ac (hB.other (g:=gq) om om j (.int .u32 (q:Nat)));clear hA hB hQ hout;go_wp2
   go_roundw
   case rel=>exact⟨j,_,rs',om,rfl,HB,HA,HPU,HST⟩
   case measure=>simp[intOf]

def FX(A D:Option Addr)(n m c d L:Nat)(xs ys:List Nat)(w:World)(h:n<=268435000)(l:m<=268435000)(e:L<=w.heap.size)(a:cG w L A n xs)(b:cG w L D m ys)(tx:oW xs)(ty:oW ys)(f:0<aZ ys) :
  Calls ah 137 #[.slice A n c,.slice D m d] w (ns w (aZ xs/aZ ys) (aZ xs%aZ ys)):=by
 by_cases i:aZ xs<aZ ys∨n<=2∨m<=1
 .exact Ar A D n m c d L xs ys w om om e a b tx ty f i
 .have j:m<=n:=by
   have g:=fT (om:aZ ys<=aZ xs)
   rw[<-aJ a tx,<-aJ b ty]at g;exact g
  obtain⟨k,rfl⟩:∃k,m=k+2:=⟨m-2,om⟩
  obtain⟨M,rfl⟩:∃M,n=M+(k+2):=⟨n-(k+2),om⟩
  exact FV A D M k c d L xs ys w h om e a b tx ty f om
def I5(va vb:Value)(za zb:Int)(B:Nat)(w:World)(e:B<=w.heap.size)(f:eJ w B va za)(g:eJ w B vb zb)(sa:nl za.natAbs<=268435000)(sb:nl zb.natAbs<=268435000)(h:zb≠0) :
  Calls ah 82 #[va,vb] w (xQ w (za/zb) (za%zb)) :=
 Ba va vb za zb B w e f g om om h fun A D n m c d xs ys w i a b tx ty j k l=>by
  rw[<-k,<-aJ a tx]at sa;rw[<-l,<-aJ b ty]at sb;exact FX A D n m c d B xs ys w sa sb i a b tx ty j

theorem ot:∀{n:Nat} {f g:Nat->Nat},(∀i,i<n->f i=g i)->iX n f=iX n g
 | 0,_,_,_=>rfl
 | n+1,f,g,h=>by
  simp only[iX];rw[h 0 om,ot (n:=n) fun i a=>h (i+1) om]
theorem Cm:∀{n:Nat} {f:Nat->Nat} {i:Nat},i<n->iX n f=f i*iX n (fun t=>if t=i then 1 else f t)
 | n+1,f,0,_=>by
  simp only[iX,ai];rw[mW,ot (n:=n) (f:=fun i=>if i+1=0 then 1 else f (i+1)) (g:=fun i=>f (i+1)) fun j _=>by rw[af om]]
 | n+1,f,i+1,h=>by
  simp only[iX];rw[af om,Cm (n:=n) (f:=fun i=>f (i+1)) (i:=i) om];rw[ot (n:=n) (f:=fun i_1=>if i_1+1=i+1 then 1 else f (i_1+1)) (g:=fun t=>if t=i then 1 else f (t+1)) fun j _=>by
   by_cases e:j=i
   .rw[ai e,ai om]
   .rw[af e,af om]]
  rw[<-bC,<-bC,aA (f 0)]
theorem vX:∀{n:Nat} {f:Nat->Nat},(∀i,i<n->1<=f i)->1<=iX n f
 | 0,_,_=>by simp[iX]
 | n+1,f,h=>by
  simp only[iX];exact IS (h 0 om) (vX fun i a=>h (i+1) om)
theorem Cn:∀{m N:Nat} {f:Nat->Nat} {O:Nat->Nat},(∀i,i<N->1<=f i)->(∀a,a<m->O a<N)->(∀a b,a<m->b<m->O a=O b->a=b)->iX m (fun a=>f (O a))<=iX N f
 | 0,_,_,_,h,_,_=>by simp only[iX];exact vX h
 | m+1,N,f,O,h,d,g=>by
  rw[Cm (d 0 om)];simp only[iX];refine aM _ ?_;have:=Cn (m:=m) (N:=N) (f:=fun t=>if t=O 0 then 1 else f t) (O:=fun a=>O (a+1)) (fun i c=>by
   split
   .exact ae _
   .exact h i c) (fun a j=>d (a+1) om) (fun a b j k e=>by
   have:=g (a+1) (b+1) om om e;omega)
  refine bQ (vB (ot fun a j=>?_)) this;rw[af fun e=>by have:=g (a+1) 0 om om e;omega]
def zF(c:∀r,dU N (A r)<=f r){k i j:Nat}(d:k+j<N){σ:Nat->Nat}(e:∀g:Nat->Int,dU N (fun b=>g (σ b))=dU N g) :
  (cQ (fun x y=>A x (σ y)) k i j).natAbs<=iX (k+1) (fun a=>f (if a<k then a else k+i)):=by
 unfold cQ;refine bQ (DY _ _) (sU fun a _=>?_);refine bQ (Gh (fun y=>A (up k (fun _=>i) a) (σ y)) d) ?_;rw[e (A (up k (fun _=>i) a))];exact c _
def Bn{B:aI}(t:∀r,r<N->dU N (B r)<=f r)(p:∀r,r<N->1<=f r){k i j:Nat}(v:k+i<N)(u:k+j<N){σ:Nat->Nat}(q:∀a,a<N->σ a<N) :
  (cQ (fun a b=>B (σ a) b) k i j).natAbs<=iX N f:=by
 unfold cQ;have s:∀a,a<k+1->up k (fun _=>i) a<N:=fun a g=>by unfold up;split<;>omega
 by_cases d:∀a b,a<k+1->b<k+1->σ (up k (fun _=>i) a)=σ (up k (fun _=>i) b)->a=b
 .refine bQ (DY _ _) (bQ (sU fun a g=>?_) (Cn (m:=k+1) (N:=N) (f:=f) (O:=fun a=>σ (up k (fun _=>i) a)) p (fun a g=>q _ (s a g)) d));exact bQ (Gh (fun y=>B (σ (up k (fun _=>i) a)) y) u) (t _ (q _ (s a g)))
 .have:∃a b,a<b/\b<k+1/\σ (up k (fun _=>i) a)=σ (up k (fun _=>i) b):=by
   refine ez fun l=>d fun a b g n e=>?_;rcases dY a b with h|h|h
   .exact(l ⟨a,b,h,n,e⟩).elim
   .exact h
   .exact(l ⟨b,a,h,g,e.symm⟩).elim
  obtain⟨a,b,o,n,e⟩:=this;rw[mI _ o n (fun c _=>by show B (σ (up k (fun _=>i) a)) _=B (σ (up k (fun _=>i) b)) _;rw[e])]
  have:=vX p;simp



end Go.Proofs.YtdobfmlmenaajaaGreatDoor
