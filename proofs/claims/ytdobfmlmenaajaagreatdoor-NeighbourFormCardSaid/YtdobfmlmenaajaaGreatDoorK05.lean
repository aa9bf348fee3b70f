/-
  Lemmas for NeighbourForm.
-/
import Derived.Test.YtdobfmlmenaajaaGreatDoorK04
import Derived.Laws.Externs
import Derived.Laws.Bits64b
import Derived.Lib.Mul64
namespace Go.Proofs.YtdobfmlmenaajaaGreatDoor
open Go.RowKit Tryz
open _root_.Classical renaming choose→fN
open _root_.List renaming replicate→cn,getD→dh
open _root_.Nat renaming strongRecOn→kT
open Tryz renaming prog→ak
open Value renaming int→dv
set_option maxHeartbeats 6400000
set_option maxRecDepth 4096
set_option linter.all false
variable{D a b d xc xj z za zb:Int}{l ps qq qs rs vs ys:List Nat}{B B1 K K' N V W X Y bor c car g i j k m n s x y:Nat}{f q q' r r' u v xs:Nat->Nat}{M:Nat->Prop}{p:PL}{w w0 w1 w2 wr:World}{A A0 A1 C H Q R:az}
abbrev lf(l:List Nat):Nat->Nat:=fun i=>l.getD i 0
def LJ{ps:Nat->Nat}(h:vF i ps+car*4294967296^i=vF i xs*2^s):vF i ps+(car+xs i*2^s)%4294967296*4294967296^i+(car+xs i*2^s)/4294967296*4294967296^(i+1)=vF (i+1) xs*2^s:=by
 have e:=Nat.mod_add_div (car+xs i*2^s) 4294967296;simp only[vF,bV];rw[dJ,<-h];generalize (car+xs i*2^s)%4294967296=a at *;generalize (car+xs i*2^s)/4294967296=b at *;generalize 4294967296^i=p at *;have c:(a+4294967296*b)*p=(car+xs i*2^s)*p:=by rw[e]
 rw[dJ,dJ]at c;have d:b*(p*4294967296)=4294967296*b*p:=by rw[aA p,<-bI,aA b]
 have f:xs i*p*2^s=xs i*2^s*p:=by rw[bI,aA p,<-bI]
 omega
def CW:vF i (lf (ps.set i x))=vF i (lf ps):=jO fun j a=>fR om
def rk(h:i<ps.length):lf (ps.set i x) i=x:=by simp[lf,dh,h]
def QW{a:Nat}(c:a<2^s):a ||| x*2^s=a+x*2^s:=by
 have h:=kD (i:=s) (b:=a) c x;rw[tC]at h;rw[SF,<-h,kE]
def LA.start(w:World)(n:Nat):LA w.heap.size w (w.alloc (.cells (dH [] n) 136)) w.heap.size n (cn n 0):=by
 obtain⟨a,b⟩:=iA.start w n;refine⟨a,ag _,sm,fun x c=>by rw[(SR.1 c).2];omega,_,b,fun j d=>?_⟩
 rw[mb _ 0 j (by simp;omega)];simp
def sD(A:Option Addr)(n c s L:Nat)(xs:List Nat)(w:World)(hn:n<=268435456)(hs:s<32)(hL:L<=w.heap.size)(hx:cE w L A n xs) :
  Calls ak 199 #[.slice A n c,.int .i64 s] w fun e w'=>∃c' ps,e=.returned (.slice (some ⟨w.heap.size,0,none⟩) (n+1:Nat) c')/\n+1<=c'/\LA w.heap.size w w' w.heap.size (n+1) ps/\vF (n+1) (lf ps)=vF n (lf xs)*2^s:=by
 have hmk:=Dr (n+1) om;rw[show((n+1:Nat):Int)=(n:Int)+1 by omega]at hmk
 have HX:=ab hx;clear hx
 go_enter func199,ntmps199
 go_wp2;clear hmk;have hs0:¬(s:Int)<0:=om
 have hmin:min s 64=s:=om
 go_loopw [6,15] (fun cv iv wr=>∃(i car:Nat) (ps:List Nat),i<=n/\iv=.int .i64 i/\cv=.int .u64 car/\car<2^s/\Hid (LA w.heap.size w wr w.heap.size (n+1) ps)/\Hid (vF i (lf ps)+car*4294967296^i=vF i (lf xs)*2^s)) (fun _ iv _=>n-(intOf iv).toNat)
 case atStart=>exact⟨0,0,cn (n+1) 0,om,rfl,rfl,jb s,ab (LA.start w (n+1)),ab (by simp[vF])⟩
 case round =>
  obtain⟨i,car,ps,hi,rfl,rfl,hcar,HF,HS⟩:=hrel;by_cases hin:i<n
  .obtain⟨ad,x,rfl,hab,hxx,hx4,hcx⟩:=(HX.out.below HF.out.1 hL).at_ (k:=i) om;have HXX:=ab hxx;clear hxx;have hin':(i:Int)<n:=om
   have hin2:(i:Int)<(n:Int)+1:=om
   have hi0:(0:Int)<=i:=om
   obtain⟨hcp,hfp⟩:=HF.out.at_ (k:=i) om;generalize ps.getD i 0=pp at hcp;have hz:x*2^s<=4294967295*2^s/\(2:Nat)^s<=2147483648:=⟨aq _ om,cp om (om:s<=31)⟩
   have HO:Hid (bits .or .u64 (car:Int) (IntKind.u64.wrap ((x:Int)*2^s))=((car+x*2^s:Nat):Int)):=ab (by
    have e1:IntKind.u64.wrap ((x:Int)*2^s)=((x*2^s:Nat):Int):=by
     rw[show((x:Int)*2^s)=((x*2^s:Nat):Int) by rw[aX,Jz];rfl,cf]
     generalize 2^s=t at *;generalize x*t=z at *;omega
    rw[e1,yb _ _ (by generalize 2^s=t at *;omega) (by generalize 2^s=t at *;generalize x*t=z at *;omega),QW hcar])
   have hst:=LJ HS.out;rw[show lf xs i=x from HXX.out]at hst;have hc2:(car+x*2^s)/4294967296<2^s:=by
    rw[oa om];generalize 2^s=t at *;generalize x*t=z at *;omega
   have HST:=ab hst;clear hst;have HZ:=ab hz;clear hz;go_wp2
   go_roundw
   case rel =>
    rw[HO.out];have hput:=HF.out.put (k:=i) (x:=(car+x*2^s)%4294967296) om om;refine⟨i+1,(car+x*2^s)/4294967296,_,om,by go_num,by go_num,hc2,ab (by simpa using hput),ab ?_⟩
    rw[<-HST.out];simp only[vF];rw[CW,rk (by rw[HF.out.2.2.1];omega)]
   case measure=>simp[intOf];omega
  .obtain rfl:i=n:=om
   obtain⟨hcp,hfp⟩:=HF.out.at_ (k:=i) om;generalize ps.getD i 0=pp at hcp;have hc4:(2:Nat)^s<=2147483648:=cp om (om:s<=31)
   have hcar4:car<4294967296:=om
   have HC4:=ab hc4;clear hc4;have hin2:(i:Int)<(i:Int)+1:=om
   have hput:=HF.out.put (k:=i) (x:=car) om hcar4;have HP:=ab hput;clear hput;go_wp2;go_ret;refine⟨i+1,by go_num,ag _,ps.set i car,by simpa using HP.out,?_⟩
   rw[<-HS.out];simp only[vF];rw[CW,rk (by rw[HF.out.2.2.1];omega)]
def LH(c:x<4294967296)(f:s<32):2^s*((x+y*4294967296)/2^s%4294967296)+x%2^s=x+(y%2^s)*4294967296:=by
 have a:2^s*2^(32-s)=4294967296:=by rw[<-fz,(om:s+(32-s)=32)]
 have b:=jb s;have g:=jb (32-s);generalize 2^s=P at *;generalize 2^(32-s)=Q at *;have d:(x+y*4294967296)/P=x/P+y*Q:=by
  rw[<-a,show y*(P*Q)=P*(y*Q) by rw[<-bI,aA y,bI],SH _ _ b]
 have e:y*Q=4294967296*(y/P)+y%P*Q:=by
  have h:=cV y P;rw[<-a];have:(P*(y/P)+y%P)*Q=y*Q:=by rw[h]
  rw[<-this,dJ];congr 1;rw[bI,aA (y/P),<-bI]
 have i:x/P<Q:=by rw[oa b,aA,a];exact c
 have j:y%P*Q+Q<=4294967296:=by
  have h:=aq Q (di y b);rw[cg,a]at h;exact h
 rw[d,e,(om:x/P+(4294967296*(y/P)+y%P*Q)=(x/P+y%P*Q)+4294967296*(y/P)),Nk,dR om,bW]
 have k:=cV x P;have l:P*(y%P*Q)=y%P*4294967296:=by rw[<-a,<-bI,<-bI,aA P]
 omega
def EQ{y x:Nat->Nat}(h:2^s*vF i y+x 0%2^s=vF i x+x i%2^s*4294967296^i)(a:x i<4294967296)(b:s<32)(c:y i=(x i+x (i+1)*4294967296)/2^s%4294967296):2^s*vF (i+1) y+x 0%2^s=vF (i+1) x+x (i+1)%2^s*4294967296^(i+1):=by
 have e:=LH (x:=x i) (y:=x (i+1)) a b;rw[<-c]at e;simp only[vF,bV];generalize 4294967296^i=p at *;have d:(2^s*y i+x i%2^s)*p=(x i+x (i+1)%2^s*4294967296)*p:=by rw[e]
 rw[dJ,dJ]at d;rw[bW,<-bI (2^s) (y i),show x (i+1)%2^s*(p*4294967296)=x (i+1)%2^s*4294967296*p by rw[bI,aA p]]
 omega
def G0(h:l.length<=i):lf l i=0:=by simp[lf,dh,dV h]
def shrI(z s:Nat):(z:Int)/2^s%4294967296=((z/2^s%4294967296:Nat):Int):=by
 rw[lK,lL,Jz];rfl
def t9(h:mV l)(i:Nat):lf l i<4294967296:=h.getD i
def LI{y x:Nat->Nat}(h:2^s*vF n y+x 0%2^s=vF n x+x n%2^s*4294967296^n)(b:x n=0):vF n y=vF n x/2^s:=by
 have a:=jb s;have c:=di (x 0) a;rw[b,Nat.zero_mod,nE,cu]at h;rw[<-h,jH a,ed c];rfl
def zw(B:Nat)(w0 w:World)(g n c s:Nat)(xs:List Nat)(hn:n<=268435456)(hs:s<32)(h:LA B w0 w g n xs)(P:World->Prop)(hPc:∀(wr:World) (q:Nat) (u:Value),P wr->P (wr.setCell ⟨g,q,none⟩ u))(hP:P w) :
  Calls ak 201 #[.slice (some ⟨g,0,none⟩) n c,.int .i64 s] w fun e w'=>∃ps,e=.returned (.tuple #[])/\LA B w0 w' g n ps/\P w'/\vF n (lf ps)=vF n (lf xs)/2^s:=by
 have hxl:=h.2.2.1;have HL:=ab h.2.2.2.1;have HA:=ab h;clear h;have HPC:=ab hPc;clear hPc;have HP0:=ab hP;clear hP;have hs0:¬(s:Int)<0:=om
 have hmin:min s 64=s:=om
 go_enter func201,ntmps201
 go_wp2
 go_loopw [8] (fun iv wr=>∃(i:Nat) (ps:List Nat),i<=n/\iv=.int .i64 i/\Hid (LA B w0 wr g n ps)/\Hid (P wr)/\Hid (∀k,i<=k->lf ps k=lf xs k)/\Hid (2^s*vF i (lf ps)+lf xs 0%2^s=vF i (lf xs)+lf xs i%2^s*4294967296^i)) (fun iv _=>n-(intOf iv).toNat)
 case atStart=>exact⟨0,xs,om,rfl,HA,HP0,ab fun _ _=>rfl,ab (by simp[vF])⟩
 case round =>
  clear HA;obtain⟨i,ps,hi,rfl,HF,HPP,HK,HS⟩:=hrel;by_cases hin:i<n
  .obtain⟨hcp,hfp⟩:=HF.out.at_ (k:=i) hin;rw[show ps.getD i 0=lf xs i from HK.out i (ag _)]at hcp;have hx4:=t9 HL.out i;have hin':(i:Int)<n:=om
   have hi0:(0:Int)<=i:=om
   by_cases hi1:i+1<n
   .obtain⟨hcq,hfq⟩:=HF.out.at_ (k:=i+1) hi1;rw[show ps.getD (i+1) 0=lf xs (i+1)from HK.out (i+1) om]at hcq;have hy4:=t9 HL.out (i+1);have hsp:=EQ (y:=fun k=>if k=i then(lf xs i+lf xs (i+1)*4294967296)/2^s%4294967296 else lf ps k) (x:=lf xs) (i:=i) (s:=s) (by rw[<-HS.out];congr 2;exact jO fun j hj=>ah om) hx4 hs (aj rfl)
    generalize hxx:lf xs i=x at hcp hx4 hsp;generalize hyy:lf xs (i+1)=y at hcq hy4 hsp;have HO:Hid (bits .or .u64 (x:Int) ((y:Int)*4294967296)/2^s%4294967296=(((x+y*4294967296)/2^s%4294967296:Nat):Int)):=ab (by
     rw[show(y:Int)*4294967296=((y*4294967296:Nat):Int) by omega,yb _ _ om om,GQ hx4,shrI])
    have HSP:=ab hsp;clear hsp;have hi1':(i:Int)+1<n:=om
    go_wp2
    go_roundw
    case rel =>
     rw[HO.out];have hput:=HF.out.put (k:=i) (x:=(x+y*4294967296)/2^s%4294967296) om om;refine⟨i+1,_,om,by go_num,ab hput,ab (HPC.out _ _ _ HPP.out),ab fun k hk=>?_,ab ?_⟩
     .rw[lf,fR om];exact HK.out k om
     .rw[hyy,<-HSP.out];congr 2;simp only[vF,aE];rw[CW,rk (by rw[HF.out.2.2.1];omega)]
      congr 1;exact jO fun j hj=>(ah om).symm
    case measure=>simp[intOf];omega
   .have hy0:lf xs (i+1)=0:=G0 om;have hsp:=EQ (y:=fun k=>if k=i then lf xs i/2^s%4294967296 else lf ps k) (x:=lf xs) (i:=i) (s:=s) (by rw[<-HS.out];congr 2;exact jO fun j hj=>ah om) hx4 hs (by rw[aj rfl,hy0,nE,cu])
    generalize hxx:lf xs i=x at hcp hx4 hsp;have HO:Hid ((x:Int)/2^s%4294967296=((x/2^s%4294967296:Nat):Int)):=ab (shrI x s);have HSP:=ab hsp;clear hsp;have hi1':¬(i:Int)+1<n:=om
    go_wp2
    go_roundw
    case rel =>
     rw[HO.out];have hput:=HF.out.put (k:=i) (x:=x/2^s%4294967296) om om;refine⟨i+1,_,om,by go_num,ab hput,ab (HPC.out _ _ _ HPP.out),ab fun k hk=>?_,ab ?_⟩
     .rw[lf,fR om];exact HK.out k om
     .rw[<-HSP.out];congr 2;simp only[vF,aE];rw[CW,rk (by rw[HF.out.2.2.1];omega)]
      congr 1;exact jO fun j hj=>(ah om).symm
    case measure=>simp[intOf];omega
  .obtain rfl:i=n:=om
   have HE:=ab (LI HS.out (G0 om));go_wp2;exact bodyPost_end (v:=.tuple #[]) (by simp[results,results201]) rfl ⟨ps,rfl,HF.out,HPP.out,HE.out⟩

def Re(h:vF i q+g*vF i v=vF i u+(bor+car)*4294967296^i)(k:bor<=1)(l:u i<4294967296)
  (d:∀m,m<i->q' m=q m) (e:q' i=(u i+18446744073709551616-(car+g*v i)%4294967296-bor)%4294967296) :
  (u i+18446744073709551616-(car+g*v i)%4294967296-bor)%18446744073709551616/9223372036854775808<=1/\q' i<4294967296 /\
  vF (i+1) q'+g*vF (i+1) v=vF (i+1) u+((u i+18446744073709551616-(car+g*v i)%4294967296-bor)%18446744073709551616/9223372036854775808+(car+g*v i)/4294967296)*4294967296^(i+1):=by
 have n:=cV (car+g*v i) 4294967296;have o:=di (car+g*v i) (om:0<4294967296)
 generalize hlo:(car+g*v i)%4294967296=lo at *;generalize (car+g*v i)/4294967296=a at *;have b:(u i+18446744073709551616-lo-bor)%18446744073709551616/9223372036854775808<=1:=om
 have hlimb:q' i+lo+bor=u i+(u i+18446744073709551616-lo-bor)%18446744073709551616/9223372036854775808*4294967296:=by
  rw[e];rcases aB (u i) (lo+bor)with f|f<;>omega
 generalize (u i+18446744073709551616-lo-bor)%18446744073709551616/9223372036854775808=c at *;refine⟨b,om,?_⟩
 simp only[vF,bV];rw[jO d,bW,<-bI];generalize 4294967296^i=p at *;generalize g*v i=gv at *;have j:(q' i+gv)*p+(bor+car)*p=u i*p+(c+a)*(p*4294967296):=by
  rw[show(c+a)*(p*4294967296)=(c+a)*4294967296*p by rw[aA p,bI],<-dJ,<-dJ]
  congr 1;omega
 rw[dJ]at j;omega
def Ri(h:vF i q+car*4294967296^i=vF i u+vF i v)
  (b:∀m,m<i->q' m=q m) (c:q' i=(car+(u i+v i))%4294967296) :
  vF (i+1) q'+(car+(u i+v i))/4294967296*4294967296^(i+1)=vF (i+1) u+vF (i+1) v:=by
 have d:=cV (car+(u i+v i)) 4294967296;rw[<-c]at d;generalize (car+(u i+v i))/4294967296=a at *;simp only[vF,bV];rw[jO b];generalize 4294967296^i=p at *;have e:q' i*p+a*(p*4294967296)=u i*p+v i*p+car*p:=by
  rw[show a*(p*4294967296)=a*4294967296*p by rw[aA p,bI],<-dJ,<-dJ,<-dJ]
  congr 1;omega
 omega
def OA{b:Nat}{r:Nat}(c:KG k u v g r)(h:vF (k+3) q+g*vF (k+2) v=vF (k+3) u+b*4294967296^(k+3))(d:b=0) :
  g=vF (k+3) u/vF (k+2) v/\vF (k+3) q=vF (k+3) u%vF (k+2) v:=by
 rw[d,nE,cu (vF (k+3) u)]at h;have e:=c.le;rw[cg]at e;have f:vF (k+3) u=vF (k+2) v*g+vF (k+3) q:=by rw[<-h,aA];omega
 have a:vF (k+3) q<vF (k+2) v:=om
 rw[f];exact⟨by rw[jH om,ed a];rfl,by rw[kM,dR a]⟩
def Oz{b:Nat}{q2:Nat->Nat}{r:Nat}(e:KG k u v g r)(f:g*vF (k+2) v<vF (k+3) u+vF (k+2) v)(j:∀i,i<k+3->q i<4294967296)(d:∀i,i<k+3->q2 i<4294967296)(l:∀i,i<k+2->v i<4294967296)
  (h:vF (k+3) q+g*vF (k+2) v=vF (k+3) u+b*4294967296^(k+3)) (m:b=1) (t:vF (k+3) q2+c*4294967296^(k+3)=vF (k+3) q+vF (k+2) v) :
  0<g/\g-1=vF (k+3) u/vF (k+2) v/\vF (k+3) q2=vF (k+3) u%vF (k+2) v:=by
 rw[m,mM]at h;have w:=tG j;have x:=tG d;have y:=tG l;have z:(4294967296:Nat)^(k+2)<=4294967296^(k+3):=cp om om;have A:vF (k+3) u<g*vF (k+2) v:=om
 have n:=kn_q f e.le;rcases n with⟨B,_⟩|⟨_,o,p,s⟩
 .omega
 refine⟨o,p.symm,?_⟩;rw[s];have a:vF (k+3) q2+c*4294967296^(k+3)=(vF (k+3) u+vF (k+2) v-g*vF (k+2) v)+4294967296^(k+3):=om
 generalize 4294967296^(k+3)=M at *
 match c,a with
 | 0,a=>omega
 | 1,a=>omega
 | c+2,a =>
  have:(c+2)*M=c*M+2*M:=dJ _ _ _;omega
def frm(f:Nat->Nat)(j:Nat):Nat->Nat:=fun t=>f (j+t)
def Me{z:Nat}(a:∀t,t<j->r' t=r t)(b:∀t,j+n+1<=t->r' t=r t) :
  vF (j+(n+1)+z) r'+4294967296^j*vF (n+1) (frm r j)=vF (j+(n+1)+z) r+4294967296^j*vF (n+1) (frm r' j):=by
 rw[qX (j+(n+1)) z r',qX (j+(n+1)) z r,qX j (n+1) r',qX j (n+1) r,jO (n:=j) a,jO (n:=z) (f:=fun i=>r' (j+(n+1)+i)) (g:=fun i=>r (j+(n+1)+i)) fun i _=>b _ om];show _+4294967296^j*vF (n+1) (frm r' j)+_+_=_+4294967296^j*vF (n+1) (frm r j)+_+_;omega
def yr(h:∀i,i<n->f i=0):vF n f=0:=by
 induction n with
 | zero=>rfl
 | succ n ih=>simp only[vF];rw[ih fun i a=>h i om,h n om,nE]
structure DN(n m X V J:Nat)(q r:Nat->Nat):Prop where
 q0:∀t,t<J->q t=0
 sum:vF (m+n+1) r+vF (m+1) q*V=X
 rest:vF n (frm r J)<V
 top:∀t,J+n<=t->r t=0
 J:J<=m+1
def DN.init(b:∀t,q t=0)(a:vF (m+n+1) r=X)(d:X<V*4294967296^(m+1))(e:∀t,m+n+1<=t->r t=0):DN n m X V (m+1) q r:=by
 refine⟨fun t _=>b t,by rw[yr (n:=m+1) fun i _=>b i];simpa using a,?_,fun t h=>e t om,om⟩
 rw[(om:m+n+1=m+1+n),qX]at a
 have c:4294967296^(m+1)*vF n (frm r (m+1))<=X:=by rw[<-a];exact Tn _ _
 rw[aA]at c;exact Ln (dG c d)
def DN.under(h:DN n m X V (j+1) q r)(c:r j<4294967296):vF (n+1) (frm r j)<V*4294967296:=by
 rw[EC];have a:=h.rest;have b:vF n (fun i=>frm r j (i+1))=vF n (frm r (j+1)):=jO fun i _=>by simp only[frm];congr 1;omega
 rw[b];show r j+_<_;have d:4294967296*(vF n (frm r (j+1))+1)<=4294967296*V:=aM _ a;rw[aA V];omega
def DN.step(h:DN n m X V (j+1) q r)(F:V<=4294967296^n)(c:0<V)(l:∀t,t<j->r' t=r t)(k:∀t,j+n+1<=t->r' t=r t)(o:vF (n+1) (frm r' j)=vF (n+1) (frm r j)%V)
  (f:∀t,t≠j->q' t=q t) (g:q' j=vF (n+1) (frm r j)/V):DN n m X V j q' r':=by
 have G:=h.J;have s:=di (vF (n+1) (frm r j)) c;have b:r' (j+n)=0:=by
  have e:vF (n+1) (frm r' j)=vF n (frm r' j)+r' (j+n)*4294967296^n:=rfl;rcases bD (r' (j+n))with a|a
  .exact a
  .have:=aq (4294967296^n) (show 1<=r' (j+n)from a);omega
 refine⟨fun t v=>by rw[f t om];exact h.q0 t om,?_,?_,fun t v=>?_,om⟩
 .obtain⟨z,w⟩:∃z,m+n+1=j+(n+1)+z:=⟨m-j,om⟩
  have a:=Me (z:=z) l k;rw[<-w]at a;have H:=h.sum;obtain⟨y,x⟩:∃y,m+1=j+1+y:=⟨m-j,om⟩
  have A:vF (m+1) q'=vF (m+1) q+q' j*4294967296^j:=by
   rw[x,qX,qX (j+1)];have B:vF (j+1) q'=q' j*4294967296^j:=by
    show vF j q'+_=_;rw[yr fun i C=>by rw[f i om];exact h.q0 i om];omega
   have D:vF (j+1) q=0:=yr fun i C=>h.q0 i om;have E:vF y (fun i=>q' (j+1+i))=vF y (fun i=>q (j+1+i)):=jO fun i _=>f _ om;rw[B,D,E];omega
  rw[A,g,dJ];have e:=cV (vF (n+1) (frm r j)) V;rw[<-o]at e;generalize vF (n+1) (frm r j)/V=d at *;generalize vF (n+1) (frm r j)=u at *;generalize vF (n+1) (frm r' j)=u' at *;generalize 4294967296^j=p at *;have I:p*u=d*p*V+p*u':=by
   rw[<-e,bW,aA V d,<-bI,aA p d]
  omega
 .have e:vF (n+1) (frm r' j)=vF n (frm r' j)+r' (j+n)*4294967296^n:=rfl;omega
 .rcases aB t (j+n+1)with a|a
  .rw[(om:t=j+n)];exact b
  .rw[k t a];exact h.top t om
def DN.last(h:DN n m X V 0 q r):vF (m+1) q=X/V/\vF (m+n+1) r=X%V:=by
 have b:vF (m+n+1) r=vF n (frm r 0):=by
  rw[(om:m+n+1=n+(m+1)),qX,yr (n:=m+1) fun i _=>h.top _ om,dM,cu]
  exact jO fun i _=>by simp[frm]
 have a:=h.rest;have c:=h.sum;rw[b]at *;have e:X=V*vF (m+1) q+vF n (frm r 0):=by rw[aA];omega
 rw[e];exact⟨by rw[jH om,ed a];rfl,by rw[kM,dR a]⟩

def BT(x bo y:Nat)(a:x<4294967296)(b:bo<=1)(c:y<4294967296) :
  IntKind.u64.wrap (IntKind.u64.wrap ((x:Int)-y)-bo)=((x+18446744073709551616-y-bo)%18446744073709551616:Nat):=by
 rw[cf,cf];omega
def LA.other{gv:Nat}(h:LA B w wr gv n ys)(b:B<=g)(a:gv≠g)(k:Nat)(u:Value):LA B w (wr.setCell ⟨g,k,none⟩ u) gv n ys:=by
 obtain⟨c,d,e,f,cs,i,j⟩:=h;exact⟨c.setCell (by exact b) _,d,e,f,cs,i.other a,j⟩
def LA.still{wr':World}(h:LA B w wr g n ps)(a:dT wr wr'):LA B w wr' g n ps:=by
 obtain⟨b,c,d,e,cs,f,i⟩:=h;exact⟨b.trans (a.below B),c,d,e,cs,by unfold fV at *;rw[a.heap];exact f,i⟩
def yE(h:f n=0):vF (n+1) f=vF n f:=by simp only[vF,h,nE,cu]
def Ja{u v z:Nat}(h:vF i (frm (lf qs) j)+g*vF i (lf ys)=vF i (frm (lf ps) j)+(bor+car)*4294967296^i)(d:bor<=1)(e:u<4294967296)
  (b:lf ps (j+i)=u) (f:lf ys i=v) (k:g*v=z) (l:j+i<qs.length) :
  (u+18446744073709551616-(car+z)%4294967296-bor)%18446744073709551616/9223372036854775808<=1 /\
  vF (i+1) (frm (lf (qs.set (j+i) ((u+18446744073709551616-(car+z)%4294967296-bor)%4294967296))) j)+g*vF (i+1) (lf ys) =
   vF (i+1) (frm (lf ps) j)+((u+18446744073709551616-(car+z)%4294967296-bor)%18446744073709551616/9223372036854775808+(car+z)/4294967296)*4294967296^(i+1):=by
 subst k f;have a:frm (lf ps) j i=u:=b;have c:=Re (q':=frm (lf (qs.set (j+i) ((frm (lf ps) j i+18446744073709551616-(car+g*lf ys i)%4294967296-bor)%4294967296))) j) h d (by rw[a];exact e) (fun m n=>by
  unfold frm;exact fR om) (by
  generalize (frm (lf ps) j i+18446744073709551616-(car+g*lf ys i)%4294967296-bor)%4294967296=x;unfold frm;exact rk l)
 rw[a]at c;exact⟨c.1,c.2.2⟩
def Ox{u:Nat}(h:vF n (frm (lf qs) j)+g*vF n (lf ys)=vF n (frm (lf ps) j)+(bor+car)*4294967296^n)(e:bor<=1)(f:u<4294967296)
  (a:lf ps (j+n)=u) (b:lf ys n=0) (c:car<4294967296) (i:j+n<qs.length) (k:W=(u+18446744073709551616-car-bor)%18446744073709551616) {m:Nat} (l:n+1=m) :
  W/9223372036854775808<=1/\vF m (frm (lf (qs.set (j+n) (W%4294967296))) j)+g*vF n (lf ys)=vF m (frm (lf ps) j)+W/9223372036854775808*4294967296^m:=by
 subst l;have d:=Ja h e f a b (dM g) i;rw[show car+0=car from rfl,dR c,ed c,cu,<-k,yE b,show(u+18446744073709551616-car-bor)%4294967296=W%4294967296 by omega]at d
 exact d
def Jb{u v:Nat}(h:vF i (frm (lf rs) j)+car*4294967296^i=vF i (frm (lf qq) j)+vF i (lf ys))(c:lf qq (j+i)=u)(d:lf ys i=v)(e:j+i<rs.length) :
  vF (i+1) (frm (lf (rs.set (j+i) ((car+(u+v))%4294967296))) j)+(car+(u+v))/4294967296*4294967296^(i+1)=vF (i+1) (frm (lf qq) j)+vF (i+1) (lf ys):=by
 subst d;have a:frm (lf qq) j i=u:=c;have b:=Ri (q':=frm (lf (rs.set (j+i) ((car+(frm (lf qq) j i+lf ys i))%4294967296))) j) h (fun m f=>by
  unfold frm;exact fR om) (by
  generalize (car+(frm (lf qq) j i+lf ys i))%4294967296=x;unfold frm;exact rk e)
 rw[a]at b;exact b
def OC{u:Nat}(h:vF n (frm (lf rs) j)+car*4294967296^n=vF n (frm (lf qq) j)+vF n (lf ys))(c:lf qq (j+n)=u)(a:lf ys n=0)(f:car<4294967296)(d:j+n<rs.length){m:Nat}(e:n+1=m) :
  vF m (frm (lf (rs.set (j+n) ((u+car)%4294967296))) j)+(u+car)/4294967296*4294967296^m=vF m (frm (lf qq) j)+vF n (lf ys):=by
 subst e;have b:=Jb h c a d;rw[cu u,kE car u,yE a]at b;exact b
def Al(B:Nat)(w0 w:World)(g gv N M j k c1 c2:Nat)(ps ys:List Nat)(hN:N<=268435457)(hjk:j+k+3<=N)(hkM:k+3<=M)(hne:gv≠g)(hp:LA B w0 w g N ps)(hy:LA B w0 w gv M ys)
  (hv0:0<lf ys (k+1)) (hvt:lf ys (k+2)=0) (hU:vF (k+3) (frm (lf ps) j)<vF (k+2) (lf ys)*4294967296) (P:World->Prop) (hPs:∀wr wr',dT wr wr'->P wr->P wr') (hPc:∀(wr:World) (q:Nat) (u:Value),P wr->P (wr.setCell ⟨g,q,none⟩ u)) (hP:P w) :
  Calls ak 200 #[.slice (some ⟨g,j,none⟩) (k+3) c1,.slice (some ⟨gv,0,none⟩) (k+2) c2] w fun e w'=>∃qs,e=.returned (.int .u32 ((vF (k+3) (frm (lf ps) j)/vF (k+2) (lf ys):Nat):Int))/\LA B w0 w' g N qs/\LA B w0 w' gv M ys/\P w' /\
   (∀t,t<j∨j+k+3<=t->lf qs t=lf ps t)/\vF (k+3) (frm (lf qs) j)=vF (k+3) (frm (lf ps) j)%vF (k+2) (lf ys):=by
 have hlp:=t9 hp.2.2.2.1;have hly:=t9 hy.2.2.2.1;have hBg:=hp.2.1;have HPS:=ab hPs;clear hPs;have HPC:=ab hPc;clear hPc;have HP0:=ab hP;clear hP;obtain⟨a2,f2⟩:=hp.at_ (k:=j+(k+2)) om;obtain⟨a1,f1⟩:=hp.at_ (k:=j+(k+1)) om;obtain⟨a0,f0⟩:=hp.at_ (k:=j+k) om;obtain⟨d1,e1⟩:=hy.at_ (k:=k+1) om;obtain⟨d0,e0⟩:=hy.at_ (k:=k) om;have x2:=hlp (j+(k+2));have x1:=hlp (j+(k+1));have x0:=hlp (j+k);have y1:=hly (k+1);have y0:=hly k;have HK:=ab (KG.init (k:=k) (u:=frm (lf ps) j) (v:=lf ys) hv0 fun i _=>hlp _);have HFI:=ab (Mf (k:=k) (u:=frm (lf ps) j) (v:=lf ys) (fun i _=>hly i) hU);have HHP:=ab hp;clear hp;have HHY:=ab hy;clear hy;have HU:=ab hU;clear hU;have HLP:=ab hlp;clear hlp;have HLY:=ab hly;clear hly;have HVT:=ab hvt;clear hvt;change w.cell? ⟨g,j+(k+2),none⟩=some (.int .u32 (lf ps (j+(k+2)):Nat))at a2;change w.cell? ⟨g,j+(k+1),none⟩=some (.int .u32 (lf ps (j+(k+1)):Nat))at a1;change w.cell? ⟨g,j+k,none⟩=some (.int .u32 (lf ps (j+k):Nat))at a0;change w.cell? ⟨gv,k+1,none⟩=some (.int .u32 (lf ys (k+1):Nat))at d1;change w.cell? ⟨gv,k,none⟩=some (.int .u32 (lf ys k:Nat))at d0;change Hid (KG k (frm (lf ps) j) (lf ys) ((lf ps (j+(k+2))*4294967296+lf ps (j+(k+1)))/lf ys (k+1)) ((lf ps (j+(k+2))*4294967296+lf ps (j+(k+1)))%lf ys (k+1)))at HK;generalize hX2:lf ps (j+(k+2))=X2 at a2 x2 HK;generalize hX1:lf ps (j+(k+1))=X1 at a1 x1 HK;generalize hX0:lf ps (j+k)=X0 at a0 x0;generalize hY1:lf ys (k+1)=Y1 at d1 y1 hv0 HK;generalize hY0:lf ys k=Y0 at d0 y0;have HX2:=ab hX2;clear hX2;have HX1:=ab hX1;clear hX1;have HX0:=ab hX0;clear hX0;have HY1:=ab hY1;clear hY1;have HY0:=ab hY0;clear hY0;have hv0':(Y1:Int)≠0:=om
 have hv0n:Y1≠0:=om
 have HO:=ab (qZ x2 x1);have ST:=ab (show ∀wr,dT w wr->(wr.cell? ⟨g,j+(k+2),none⟩=some (.int .u32 X2)/\wr.cell? ⟨g,j+k,none⟩=some (.int .u32 X0))/\wr.cell? ⟨gv,k+1,none⟩=some (.int .u32 Y1)/\wr.cell? ⟨gv,k,none⟩=some (.int .u32 Y0)from fun wr h=>⟨⟨(h.cell _).trans a2,(h.cell _).trans a0⟩,(h.cell _).trans d1,(h.cell _).trans d0⟩)
 go_enter func200,ntmps200
 go_wp2
 go_quiet (fail)
 go_wp2
 go_quiet (fail)
 clear a2 a1 a0 d1 d0 f2 f1 f0 e1 e0;go_wp2
 go_loopw [7,8] (fun gvv rvv wr=>∃(G R:Nat),gvv=.int .u64 G/\rvv=.int .u64 R/\R<4294967296/\G<18446744073709551616/\Hid (dT w wr)/\Hid (KG k (frm (lf ps) j) (lf ys) G R)) (fun gvv _ _=>(intOf gvv).toNat)
 case atStart =>
  have hh:X2*4294967296+X1<18446744073709551616:=om
  have hq:=gG (X2*4294967296+X1) Y1;have hr:=di (X2*4294967296+X1) hv0;refine⟨_,_,?_,?_,Nat.lt_trans hr y1,dG hq hh,ab (by repeat' (first|exact dT.refl _|apply dT.more)),HK⟩
  .rw[HO.out,fD (cM _),<-lL,cf];generalize (X2*4294967296+X1)/Y1=q at *;congr 1;omega
  .rw[HO.out,aO (cM _),lK]
 case round =>
  obtain⟨G,R,rfl,rfl,hR,hG,HS,HKG⟩:=hrel;obtain⟨⟨a2,a0⟩,d1,d0⟩:=ST.out _ HS.out;clear HO HK x1 HX1;have hO2:=qZ hR x0;obtain⟨Z,hZ⟩:∃Z,G*Y0=Z:=⟨_,rfl⟩;have hZi:(G:Int)*(Y0:Int)=(Z:Int):=by rw[<-hZ];simp
  have hZl:G<4294967296->Z<=18446744065119617025:=fun h=>hZ▸nR h y0;have hst:4294967296<=G∨R*4294967296+X0<Z->0<G/\Hid (KG k (frm (lf ps) j) (lf ys) (G-1) (R+Y1)):=fun h=>by
   have:=HKG.out.step (fun i _=>HLP.out _) HU.out (by rw[HY0.out,show frm (lf ps) j k=lf ps (j+k)from rfl,HX0.out,hZ];exact h)
   rw[HY1.out]at this;exact⟨this.1,ab this.2⟩
  have hbr:0<G->Hid (KG k (frm (lf ps) j) (lf ys) (G-1) (R+Y1))->4294967296<=R+Y1->Hid (G-1<4294967296/\(G-1)*vF (k+2) (lf ys)<vF (k+3) (frm (lf ps) j)+vF (k+2) (lf ys)/\∃r,KG k (frm (lf ps) j) (lf ys) (G-1) r):=fun h0 HK2 hr=>by
   have hF:=HK2.out.g_lt HFI.out (by rw[show frm (lf ps) j (k+1)=lf ps (j+(k+1))from rfl];exact HLP.out _) hr
   exact ab ⟨hF,HK2.out.last (fun i _=>HLY.out i) (by rw[HY1.out];exact hv0) hF (KG.big (HLY.out k) hF hr),_,HK2.out⟩
  have hen:G<4294967296->Z<=R*4294967296+X0->Hid (G<4294967296/\G*vF (k+2) (lf ys)<vF (k+3) (frm (lf ps) j)+vF (k+2) (lf ys)/\∃r,KG k (frm (lf ps) j) (lf ys) G r):=fun h0 h1 =>
   ab ⟨h0,HKG.out.last (fun i _=>HLY.out i) (by rw[HY1.out];exact hv0) h0 (by rw[HY0.out,show frm (lf ps) j k=lf ps (j+k)from rfl,HX0.out,hZ];exact h1),_,HKG.out⟩
  have HST:=ab hst;clear hst;have HBR:=ab hbr;clear hbr;have HEN:=ab hen;clear hen;have HZL:=ab hZl;clear hZl;clear hZ;rcases (show(4294967296<=G/\R+Y1<4294967296)∨(G<4294967296/\R*4294967296+X0<Z/\R+Y1<4294967296)∨(4294967296<=G/\4294967296<=R+Y1)∨(G<4294967296/\R*4294967296+X0<Z/\4294967296<=R+Y1)∨(G<4294967296/\Z<=R*4294967296+X0)from by omega)with h|h|h|h|h
  .obtain⟨hbig,hr⟩:=h;obtain⟨hg0,HK2⟩:=HST.out (a9 hbig);have hs1:¬(G:Int)/4294967296=0:=om
   have hs2:((G:Int)/4294967296==0)=false:=by simpa using hs1
   have hs3:((G:Int)/4294967296 != 0)=true:=by simpa using hs1
   have hr1:((R:Int)+Y1)/4294967296=0:=om
   go_wp2
   go_quiet (fail)
   go_wp2
   go_roundw
   case rel=>exact⟨G-1,R+Y1,by go_num,by go_num,hr,om,ab (by repeat' (first|exact HS.out|apply dT.more)),HK2⟩
   case measure=>simp[intOf];omega
  .obtain⟨hsm,hlt,hr⟩:=h;obtain⟨hg0,HK2⟩:=HST.out (aR hlt);have hZl:=HZL.out hsm;have hs1:(G:Int)/4294967296=0:=om
   have hs2:((G:Int)/4294967296==0)=true:=by simpa using hs1
   have hs3:((G:Int)/4294967296 != 0)=false:=by simpa using hs1
   have hc1:bits .or .u64 ((R:Int)*4294967296) (X0:Int)<(Z:Int):=by rw[hO2];omega
   have hc2:decide (bits .or .u64 ((R:Int)*4294967296) (X0:Int)<(Z:Int))=true:=by simpa using hc1
   have hr1:((R:Int)+Y1)/4294967296=0:=om
   clear hO2;go_wp2
   go_quiet (fail)
   go_wp2
   go_roundw
   case rel=>exact⟨G-1,R+Y1,by go_num,by go_num,hr,om,ab (by repeat' (first|exact HS.out|apply dT.more)),HK2⟩
   case measure=>simp[intOf];omega
  all_goals first
   | (obtain⟨hbig,hr⟩:4294967296<=G/\4294967296<=R+Y1:=h
      obtain⟨hg0,HK2⟩:=HST.out (a9 hbig);have HE:=HBR.out hg0 HK2 hr;have hs1:¬(G:Int)/4294967296=0:=om
      have hs2:((G:Int)/4294967296==0)=false:=by simpa using hs1
      have hs3:((G:Int)/4294967296 != 0)=true:=by simpa using hs1
      have hr1:¬((R:Int)+Y1)/4294967296=0:=om
      have hw:IntKind.u64.wrap ((G:Int)-1)=((G-1:Nat):Int):=by rw[cf];omega
      clear hO2 HK2)
   | (obtain⟨hsm,hlt,hr⟩:G<4294967296/\R*4294967296+X0<Z/\4294967296<=R+Y1:=h
      obtain⟨hg0,HK2⟩:=HST.out (aR hlt);have HE:=HBR.out hg0 HK2 hr;have hZl:=HZL.out hsm;have hs1:(G:Int)/4294967296=0:=om
      have hs2:((G:Int)/4294967296==0)=true:=by simpa using hs1
      have hs3:((G:Int)/4294967296 != 0)=false:=by simpa using hs1
      have hc1:bits .or .u64 ((R:Int)*4294967296) (X0:Int)<(Z:Int):=by rw[hO2];omega
      have hc2:decide (bits .or .u64 ((R:Int)*4294967296) (X0:Int)<(Z:Int))=true:=by simpa using hc1
      have hr1:¬((R:Int)+Y1)/4294967296=0:=om
      have hw:IntKind.u64.wrap ((G:Int)-1)=((G-1:Nat):Int):=by rw[cf];omega
      clear hO2 HK2)
   | (obtain⟨hsm,hge⟩:G<4294967296/\Z<=R*4294967296+X0:=h
      have HE:=HEN.out hsm hge;have hZl:=HZL.out hsm;have hs1:(G:Int)/4294967296=0:=om
      have hs2:((G:Int)/4294967296==0)=true:=by simpa using hs1
      have hs3:((G:Int)/4294967296 != 0)=false:=by simpa using hs1
      have hc1:¬bits .or .u64 ((R:Int)*4294967296) (X0:Int)<(Z:Int):=by rw[hO2];omega
      have hc2:decide (bits .or .u64 ((R:Int)*4294967296) (X0:Int)<(Z:Int))=false:=by simpa using hc1
      obtain⟨F,hF⟩:∃F,F=G:=⟨_,rfl⟩;subst hF;clear hO2)
  all_goals go_wp2
  all_goals go_quiet (fail)
  all_goals go_wp2
  all_goals try (have:=hg0;generalize G-1=F at HE ⊢)
  all_goals (
   clear HST HBR HEN HZL hZi;obtain⟨hF4,hFV,⟨rr,hKF⟩⟩:=HE.out;have HFV:=ab hFV;clear hFV;have HKF:=ab hKF;clear hKF
   go_loopw [9,10,83] (fun cv bv iv wr=>∃(i car bor:Nat) (qs:List Nat),i<=k+2/\iv=.int .i64 i/\cv=.int .u64 car/\bv=.int .u64 bor/\car<4294967296/\bor<=1/\Hid (LA B w0 wr g N qs)/\Hid (LA B w0 wr gv M ys)/\Hid (P wr)/\Hid (∀t,t<j∨j+i<=t->lf qs t=lf ps t)/\Hid (vF i (frm (lf qs) j)+F*vF i (lf ys)=vF i (frm (lf ps) j)+(bor+car)*4294967296^i)) (fun _ _ iv _=>(k+2)-(intOf iv).toNat))
  all_goals try exact⟨0,0,0,ps,om,rfl,rfl,rfl,om,om,ab (HHP.out.still (by repeat' (first|exact HS.out|apply dT.more))),ab (HHY.out.still (by repeat' (first|exact HS.out|apply dT.more))),ab (HPS.out w _ (by repeat' (first|exact HS.out|apply dT.more)) HP0.out),ab (fun _ _=>rfl),ab (by simp[vF])⟩
  all_goals (
   clear a2 a0 d1 d0;obtain⟨i,car,bor,qs,hi,rfl,rfl,rfl,hcar,hbor,HA,HB,HPP,HQ,HV⟩:=hrel;by_cases hin:i<k+2
   .obtain⟨hcu,hfu⟩:=HA.out.at_ (k:=j+i) om;obtain⟨hcv,hfv⟩:=HB.out.at_ (k:=i) om;have hu4:=HLP.out (j+i);have hv4:=HLY.out i;rw[show qs.getD (j+i) 0=lf ps (j+i)from HQ.out _ (aR (ag _))]at hcu;change _=some (dv .u32 (lf ys i:Nat))at hcv;generalize hu:lf ps (j+i)=u at hcu hu4;generalize hv:lf ys i=v at hcv hv4;have hz4:=nR hF4 hv4;obtain⟨z,hz⟩:∃z,F*v=z:=⟨_,rfl⟩;rw[hz]at hz4;have hzi:(F:Int)*(v:Int)=(z:Int):=by rw[<-hz];simp
    have HSB:=ab (Ja HV.out hbor hu4 hu hv hz (by rw[HA.out.2.2.1];omega))
    clear hz hu hv;have HW:=ab (show IntKind.u64.wrap (IntKind.u64.wrap ((u:Int)-((car:Int)+z)%4294967296)-bor)=((u+18446744073709551616-(car+z)%4294967296-bor)%18446744073709551616:Nat) by
     rw[show((car:Int)+z)%4294967296=(((car+z)%4294967296:Nat):Int) by omega]
     exact BT u bor ((car+z)%4294967296) hu4 hbor om)
    have hin':(i:Int)<(k:Int)+2:=om
    have hi0:(0:Int)<=i:=om
    go_wp2
    go_roundw
    case rel =>
     rw[HW.out,Dy,GZ];refine⟨i+1,(car+z)/4294967296,_,_,om,by go_num,by go_num,rfl,om,HSB.out.1,ab (HA.out.put (k:=j+i) om om),ab (HB.out.other HA.out.2.1 hne _ _),ab (HPC.out _ _ _ HPP.out),ab (fun t ht=>?_),ab HSB.out.2⟩
     rw[show lf (qs.set (j+i) _) t=lf qs t from fR om];exact HQ.out t om
    case measure=>simp[intOf];omega
   .obtain rfl:i=k+2:=om
    obtain⟨hcu,hfu⟩:=HA.out.at_ (k:=j+(k+2)) om;have hu4:=HLP.out (j+(k+2));rw[show qs.getD (j+(k+2)) 0=lf ps (j+(k+2))from HQ.out _ (aR (ag _))]at hcu;have hW0:=BT (lf ps (j+(k+2))) bor car hu4 hbor hcar;generalize hu:lf ps (j+(k+2))=u at hcu hu4 hW0;obtain⟨W,hW⟩:∃W,W=(u+18446744073709551616-car-bor)%18446744073709551616:=⟨_,rfl⟩;have HSB:=ab (Ox HV.out hbor hu4 hu HVT.out hcar (by rw[HA.out.2.2.1];omega) hW (show k+2+1=k+3 from rfl))
    rw[<-hW]at hW0;have hW64:W<18446744073709551616:=om
    clear hW hu;have hput:=HA.out.put (k:=j+(k+2)) (x:=W%4294967296) om om;have hoth:=HB.out.other HA.out.2.1 hne (j+(k+2)) (.int .u32 ((W%4294967296:Nat):Int));have hout:∀t,t<j∨j+k+3<=t->lf (qs.set (j+(k+2)) (W%4294967296)) t=lf ps t:=fun t ht=>by
     rw[show lf (qs.set (j+(k+2)) _) t=lf qs t from fR om];exact HQ.out t om
    have HP:=ab hput;clear hput;have HOT:=ab hoth;clear hoth;have HPT:=ab (HPC.out _ (j+(k+2)) (.int .u32 ((W%4294967296:Nat):Int)) HPP.out);have HOU:=ab hout;clear hout;by_cases hb:W/9223372036854775808=0
    .have hb1:(W:Int)/9223372036854775808=0:=om
     obtain⟨k1,k2⟩:=OA HKF.out HSB.out.2 hb;have HK1:=ab k1;clear k1;have HK2:=ab k2;clear k2;clear HSB HKF HFV;go_wp2;go_ret;exact⟨_,by rw[<-HK1.out];rfl,by simpa using HP.out,by simpa using HOT.out,by simpa using HPT.out,HOU.out,HK2.out⟩
    .have hb1:¬(W:Int)/9223372036854775808=0:=om
     have hb2:W/9223372036854775808=1:=om
     have HQL:=ab (t9 HP.out.2.2.2.1);have HSB0:=HSB;clear HSB;generalize hqq:qs.set (j+(k+2)) (W%4294967296)=qq at HSB0 HP HOU HQL;have hqx:lf qq (j+(k+2))=W%4294967296:=by rw[<-hqq,rk (by rw[HA.out.2.2.1];omega)]
     have HQX:=ab hqx;clear hqx;clear hqq HQ HV;go_wp2
     go_loopw [9,136] (fun cv iv wr=>∃(i car:Nat) (rs:List Nat),i<=k+2/\iv=.int .i64 i/\cv=.int .u64 car/\car<4294967296/\Hid (LA B w0 wr g N rs)/\Hid (LA B w0 wr gv M ys)/\Hid (P wr)/\Hid (∀t,t<j∨j+i<=t->lf rs t=lf qq t)/\Hid (vF i (frm (lf rs) j)+car*4294967296^i=vF i (frm (lf qq) j)+vF i (lf ys))) (fun _ iv _=>(k+2)-(intOf iv).toNat)
     case atStart=>exact⟨0,0,qq,om,rfl,rfl,om,ab (by simpa using HP.out),ab (by simpa using HOT.out),ab (by simpa using HPT.out),ab (fun _ _=>rfl),ab (by simp[vF])⟩
     case round =>
      clear HA HB HP HOT HPP HPT;obtain⟨i,car,rs,hi,rfl,rfl,hcar,HA,HB,HPP,HQ,HV⟩:=hrel;by_cases hin:i<k+2
      .obtain⟨hcu,hfu⟩:=HA.out.at_ (k:=j+i) om;obtain⟨hcv,hfv⟩:=HB.out.at_ (k:=i) om;have hu4:=HQL.out (j+i);have hv4:=HLY.out i;rw[show rs.getD (j+i) 0=lf qq (j+i)from HQ.out _ (aR (ag _))]at hcu;change _=some (dv .u32 (lf ys i:Nat))at hcv;generalize hu:lf qq (j+i)=u at hcu hu4;generalize hv:lf ys i=v at hcv hv4;have HSB:=ab (Jb HV.out hu hv (by rw[HA.out.2.2.1];omega))
       clear hu hv;have hin':(i:Int)<(k:Int)+2:=om
       have hi0:(0:Int)<=i:=om
       go_wp2
       go_quiet (fail)
       go_wp2
       go_roundw
       case rel =>
        have hput:∀w',dT wr w'->LA B w0 (w'.setCell ⟨g,j+i,none⟩ (.int .u32 (((car:Int)+((u:Int)+v))%4294967296))) g N (rs.set (j+i) ((car+(u+v))%4294967296)):=fun w' h=>by
         have:=(HA.out.still h).put (k:=j+i) (x:=(car+(u+v))%4294967296) om om;simpa using this
        have hoth:∀w',dT wr w'->LA B w0 (w'.setCell ⟨g,j+i,none⟩ (.int .u32 (((car:Int)+((u:Int)+v))%4294967296))) gv M ys:=fun w' h=>(HB.out.still h).other HA.out.2.1 hne (j+i) _;refine⟨i+1,(car+(u+v))/4294967296,_,om,by go_num,by go_num,om,ab (hput _ (by repeat' (first|exact dT.refl _|apply dT.more))),ab (hoth _ (by repeat' (first|exact dT.refl _|apply dT.more))),ab (HPC.out _ _ _ (HPS.out wr _ (by repeat' (first|exact dT.refl _|apply dT.more)) HPP.out)),ab (fun t ht=>?_),HSB⟩
        rw[show lf (rs.set (j+i) _) t=lf rs t from fR om];exact HQ.out t om
       case measure=>simp[intOf];omega
      .obtain rfl:i=k+2:=om
       obtain⟨hcu,hfu⟩:=HA.out.at_ (k:=j+(k+2)) om;rw[show rs.getD (j+(k+2)) 0=W%4294967296 from(HQ.out _ (aR (ag _))).trans HQX.out]at hcu;have HSB:=ab (OC HV.out HQX.out HVT.out hcar (by rw[HA.out.2.2.1];omega) (show k+2+1=k+3 from rfl))
       have hput:=HA.out.put (k:=j+(k+2)) (x:=(W%4294967296+car)%4294967296) om om;have hoth:=HB.out.other HA.out.2.1 hne (j+(k+2)) (.int .u32 (((W%4294967296+car)%4294967296:Nat):Int));obtain⟨k0,k1,k2⟩:=Oz HKF.out HFV.out (fun i _=>HQL.out _) (fun i _=>t9 hput.2.2.2.1 _) (fun i _=>HLY.out i) HSB0.out.2 hb2 HSB.out;have HP:=ab hput;clear hput;have HOT:=ab hoth;clear hoth;have HPT:=ab (HPC.out _ (j+(k+2)) (.int .u32 (((W%4294967296+car)%4294967296:Nat):Int)) HPP.out);have HK1:=ab k1;clear k1;have HK2:=ab k2;clear k2;have hwr:IntKind.u64.wrap ((F:Int)-1)=((F-1:Nat):Int):=by rw[cf];omega
       have hw2:IntKind.u32.wrap ((W:Int)%4294967296+car)=(((W%4294967296+car)%4294967296:Nat):Int):=by rw[K6];omega
       have hF1:((F-1:Nat):Int)%4294967296=((F-1:Nat):Int):=om
       go_wp2;go_ret;refine⟨_,?_,by simpa using HP.out,by simpa using HOT.out,by simpa using HPT.out,fun t ht=>?_,HK2.out⟩
       .rw[<-HK1.out];first|rfl|trace_state
       .rw[show lf (rs.set (j+(k+2)) _) t=lf rs t from fR om];exact(HQ.out t om).trans (HOU.out t ht))

def LA.rebase(h:LA B1 w1 w2 g n ps)(b:Below B w0 w1)(a:B<=B1):LA B w0 w2 g n ps :=
 ⟨b.trans (h.1.mono a),bO a h.2.1,h.2.2⟩
def LA.keep(h:LA B w0 w1 g n ps)(a:Below B1 w1 w2)(b:B<=B1)(c:g<B1):LA B w0 w2 g n ps:=by
 obtain⟨d,e,f,i,cs,j,k⟩:=h;exact⟨d.trans (a.mono b),e,f,i,cs,j.below a c,k⟩
def LA.lt(h:LA B w0 w1 g n ps):g<w1.heap.size:=by
 obtain⟨b,c,d,e,cs,a,f⟩:=h;exact a.lt
def yZ(l:List Nat){n:Nat}(h:l.length=n):vF n (lf l)=bC l:=by rw[Ls l,h]
def Rh(y:2<=m)(c:ys.length=m)(q:mV ys)(ty:oV ys)(z:s<32)(d:ys.getD (m-1) 0*2^s<4294967296)(l:vF (m+1) (lf vs)=vF m (lf ys)*2^s)(g:V=bC ys*2^s) :
  lf vs m=0/\vF m (lf vs)=V/\V<=4294967296^m/\0<V/\4294967296^(m-1)<=bC ys:=by
 have t:ys≠[]:=by intro h;subst h;simp at c;omega
 have j:=sP ty t;rw[c]at j;have o:=jb s;rw[yZ ys c,<-g]at l;have k:V<4294967296^m:=by
  obtain⟨r,rfl⟩:∃r,m=r+1:=⟨m-1,om⟩
  have u:bC ys=vF r (lf ys)+lf ys r*4294967296^r:=by rw[<-yZ ys c]<;>rfl
  have A:=tG (n:=r) (f:=lf ys) fun i _=>t9 q i;have v:(lf ys r+1)*2^s<=4294967296:=by
   have p:2^(32-s)*2^s=4294967296:=by rw[<-fz,(om:32-s+s=32)]
   have w:lf ys r<2^(32-s):=by
    have b:lf ys r*2^s<2^(32-s)*2^s:=by rw[p];exact d
    exact Ln b
   rw[<-p];exact aq _ w
  have x:bC ys<(lf ys r+1)*4294967296^r:=by rw[u,cg];omega
  rw[g,bV]
  calc
   bC ys*2^s<(lf ys r+1)*4294967296^r*2^s:=qH x o
   _=(lf ys r+1)*2^s*4294967296^r:=by rw[bI,aA (4294967296^r),<-bI]
   _<=4294967296*4294967296^r:=aq _ v
   _=_:=aA _ _
 have a:lf vs m=0:=by
  have e:vF (m+1) (lf vs)=vF m (lf vs)+lf vs m*4294967296^m:=rfl;rcases bD (lf vs m)with b|b
  .exact b
  .have:=aq (4294967296^m) (show 1<=lf vs m from b);omega
 refine⟨a,by rw[<-yE a];exact l,dq k,?_,j⟩
 rw[g];exact yN (cZ (iL om) j) o
def OB(b:4294967296^(k+1)<=bC ys)(a:mV vs)(c:V=bC ys*2^s)(d:vF (k+2) (lf vs)=V):0<lf vs (k+1):=by
 rcases bD (lf vs (k+1))with h|h
 .rw[yE h]at d;have g:=tG (n:=k+1) (f:=lf vs) fun i _=>t9 a i;have e:=bB b (jb s);rw[su,<-c]at e;omega
 .exact h
def Md{M:Nat}{xs:List Nat}(i:1<=m)(a:bC xs<4294967296^(M+m))(b:4294967296^(m-1)<=bC ys)(c:V=bC ys*2^s)(d:X=bC xs*2^s):X<V*4294967296^(M+1):=by
 rw[d,c];have f:=jb s;have e:(4294967296:Nat)^(M+m)=4294967296^(m-1)*4294967296^(M+1):=by rw[<-fz];congr 1;omega
 rw[e]at a;have j:=aq (4294967296^(M+1)) b;have g:bC xs<bC ys*4294967296^(M+1):=om
 have h:=qH g f;rw[bI (bC ys),aA (2^s),<-bI];exact h
def Rg(b:V=y*2^s)(c:X=x*2^s):X/V=x/y/\X%V/2^s=x%y:=by
 have a:=jb s;subst b c;refine⟨Nat.mul_div_mul_right _ _ a,?_⟩;rw[Nat.mul_mod_mul_right,Nat.mul_div_cancel _ a]
def Fw(A D:Option Addr)(M k c d L:Nat)(xs ys:List Nat)(w:World)(hn:M+(k+2)<=268435000)(h2:2<M+(k+2))(hL:L<=w.heap.size)(hx:cE w L A (M+(k+2)) xs)(hy:cE w L D (k+2) ys)(tx:oV xs)(ty:oV ys)
  (h0:0<bC ys) (hge:¬bC xs<bC ys) :
  Calls ak 137 #[.slice A (M+(k+2)) c,.slice D (k+2) d] w (m9 w (bC xs/bC ys) (bC xs%bC ys)):=by
 have hc:0<=lh (bC xs) (bC ys):=by
  rcases aB (bC ys) (bC xs)with h|h
  .rw[kC h];omega
  .rw[lD om];omega
 have hmk:=Dr (M+1) om;rw[show((M+1:Nat):Int)=(M:Int)+1 by omega]at hmk
 obtain⟨bd,rfl,hbdb,hcb⟩:=hy.2.2 om;have hcb0:=hcb (k+1) om;obtain⟨db,dof,dsp⟩:=bd;obtain rfl:dsp=none:=by simpa [Addr.add]using World.cell?_spot (hcb 0 om)
 rw[show(⟨db,dof,none⟩:Addr).add (k+1)=⟨db,dof+(k+1),none⟩from Addr.add_lit ..]at hcb0;have hy4:=hy.2.1.getD (k+1);have hyt:ys.getD (k+1) 0≠0:=by
  have hl:=hy.1;have hne:ys≠[]:=by intro h;subst h;simp at hl
  have e:=ty (ys.getLast hne) (Ii hne);rw[List.getLast_eq_getElem]at e;simp only[hl]at e;rw[dh,bE om];exact e
 have hxv:=jr hx.2.1;rw[hx.1]at hxv;clear hcb;have HX:=ab hx;clear hx;have HY:=ab hy;clear hy;have HTX:=ab tx;clear tx;have HTY:=ab ty;clear ty;have HXV:=ab hxv;clear hxv;generalize hcm:lh (bC xs) (bC ys)=cm at hc;have Hcm:=ab hcm;clear hcm;generalize hty:ys.getD (k+1) 0=yt at hcb0 hy4 hyt;have HYT:=ab hty;clear hty;have HCB:=ab hcb0;clear hcb0;have hcn:¬cm<0:=om
 have hn2:¬(M:Int)+((k:Int)+2)<=2:=om
 have hn2':decide ((M:Int)+((k:Int)+2)<=2)=false:=by simpa using hn2
 have hk1:((k:Int)+2==1)=false:=by simp;omega
 have hk1':¬((k:Int)+2=1):=om
 clear hge
 go_enter Qs,Na
 go_wp2_with fail
 refine(il A (some ⟨db,dof,none⟩) (M+(k+2)) (k+2) c d L xs ys w om om HX.out HY.out HTX.out HTY.out).mono ?_;rintro e w1 ⟨rfl,hst⟩;rw[Hcm.out];have HB1:=ab (hst.below w.heap.size);have hcell:w1.cell? ⟨db,dof+(k+1),none⟩=some (.int .u32 yt):=(hst.cell _).trans HCB.out;clear hst;have HY1:=ab (HY.out.below HB1.out hL);have HX1:=ab (HX.out.below HB1.out hL);have hL1:L<=w1.heap.size:=bO hL HB1.out.size
 go_wp2_with fail
 refine(J2 yt w1 om hy4).mono ?_;rintro e w1' ⟨s,rfl,hs,hsh,rfl⟩
 go_wp2_with fail
 have hsz1:=HB1.out.size;refine(sD (some ⟨db,dof,none⟩) (k+2) d s L ys w1' om hs hL1 HY1.out).mono ?_;rintro e w2 ⟨cv,vs,rfl,hcv,hlv,hvv⟩;obtain⟨V,hV⟩:∃V,V=bC ys*2^s:=⟨_,rfl⟩;obtain⟨t1,t2,t3,t4,t5⟩:=Rh (m:=k+2) om HY.out.1 HY.out.2.1 HTY.out hs (by rw[show k+2-1=k+1 from rfl,HYT.out];exact hsh) hvv hV
 have t6:=OB t5 hlv.2.2.2.1 hV t2;have HLV:=ab hlv;clear hlv;have HX2:=ab (HX1.out.below HLV.out.1 hL1);clear hcell hsh hvv
 go_wp2_with fail
 refine(sD A (M+(k+2)) c s L xs w2 om hs (bO hL1 HLV.out.1.size) HX2.out).mono ?_;rintro e w3 ⟨cr,rs,rfl,hcr,hlr,hvr⟩;rw[yZ xs HX.out.1]at hvr;obtain⟨X,hX⟩:∃X,X=bC xs*2^s:=⟨_,rfl⟩;have hXV:=Md (m:=k+2) (M:=M) om HXV.out t5 hV hX;rw[<-hX]at hvr;obtain⟨f1,f2⟩:=Rg hV hX;generalize hgv:w1'.heap.size=gv at HLV;generalize hgr:w2.heap.size=gr at hlr;have hgvr:gv<gr:=by rw[<-hgv,<-hgr];have:=HLV.out.lt;omega
 have HLV3:Hid (LA gv w1' w3 gv (k+2+1) vs):=ab (HLV.out.keep hlr.1 om hgvr);have HLR:Hid (LA gv w1' w3 gr (M+(k+2)+1) rs):=ab (hlr.rebase HLV.out.1 om);have hsz3:=hlr.1.size;clear hlr HLV;have HT:=ab (Bf t1 (Bf t2 (Bf t3 (Bf t4 t6))));clear t1 t2 t3 t4 t5 t6;have HF:=ab (Bf f1 f2);clear f1 f2;have HVR:=ab hvr;clear hvr;have HXV2:=ab hXV;clear hXV;clear hV hX;go_wp2;clear hmk;have hLQ:=LA.start w3 (M+1);generalize hgq:w3.heap.size=gq at hLQ;have hgq2:gr<gq:=by have:=HLR.out.lt;omega
 have HLQ:Hid (LA gv w1' (w3.alloc (.cells (dH [] (M+1)) 136)) gq (M+1) (cn (M+1) 0)):=ab (hLQ.rebase HLR.out.1 om);have HLV4:=ab (HLV3.out.keep hLQ.1 om om);have HLR4:=ab (HLR.out.keep hLQ.1 om hgq2);clear HLV3 HLR hLQ;have HDN:=ab (DN.init (n:=k+2) (m:=M) (X:=X) (V:=V) (q:=lf (cn (M+1) 0)) (r:=lf rs) (fun t=>by simp[lf,dh,PQ];split<;>rfl) HVR.out HXV2.out (fun t ht=>G0 (by rw[HLR4.out.2.2.1];omega)))
 go_loopw [12] (fun jv wr=>∃(J:Nat) (qs rs:List Nat),J<=M+1/\jv=.int .i64 ((J:Int)-1)/\Hid (LA gv w1' wr gv (k+2+1) vs)/\Hid (LA gv w1' wr gr (M+(k+2)+1) rs)/\Hid (LA gv w1' wr gq (M+1) qs)/\Hid (DN (k+2) M X V J (lf qs) (lf rs))) (fun jv _=>(intOf jv+1).toNat)
 case atStart=>exact⟨M+1,_,rs,om,by go_num,HLV4,HLR4,HLQ,HDN⟩
 case round =>
  clear HLV4 HLR4 HLQ HDN;obtain⟨J,qs,rr,hJ,rfl,HLV,HLR,HLQ,HDN⟩:=hrel;rcases bD J with h0J|h0J
  .subst h0J;obtain⟨g1,g2⟩:=HDN.out.last;rw[HF.out.1,yZ qs HLQ.out.2.2.1]at g1;have HG1:=ab g1;clear g1;have HG2:=ab g2;clear g2
   go_wp2_with fail
   refine(zw gv w1' _ gr (M+(k+2)+1) _ s rr om hs HLR.out (fun w=>LA gv w1' w gq (M+1) qs) (fun _ _ _ h=>h.other om om _ _) HLQ.out).mono ?_;rintro e w5 ⟨ps,rfl,hA,hQ,hval⟩;rw[HG2.out,HF.out.2,yZ ps hA.2.2.1]at hval;have HVA:=ab hval;clear hval;have HA5:=ab hA;clear hA;have HQ5:=ab hQ;clear hQ
   go_wp2_with fail
   refine(kO _ _ _ _ _ _ om om HQ5.out.u32).mono ?_;rintro e w' ⟨⟨k1,hk1,rfl,hU1,hT1,hv1⟩,rfl⟩;have HU1:=ab hU1;clear hU1;have HT1:=ab hT1;clear hT1;have HV1:=ab hv1;clear hv1
   go_wp2_with fail
   refine(kO _ _ _ _ _ _ om om HA5.out.u32).mono ?_;rintro e w' ⟨⟨k2,hk2,rfl,hU2,hT2,hv2⟩,rfl⟩;have HU2:=ab hU2;clear hU2;have HT2:=ab hT2;clear hT2;have HV2:=ab hv2;clear hv2;go_wp2;go_ret2;exact⟨_,k1,_,_,_,k2,_,_,rfl,om,om,HU1.out,HU2.out,HT1.out,HT2.out,HV1.out.trans HG1.out,HV2.out.trans HVA.out,HB1.out.trans (HA5.out.1.mono om)⟩
  .obtain⟨j,rfl⟩:∃j,J=j+1:=⟨J-1,om⟩
   have e1:((j+1:Nat):Int)-1=j:=om
   rw[e1];have hj0:(j:Int)≥0:=om
   have hjM:(j:Int)<(M:Int)+1:=om
   have hjs:(j:Int)+((k:Int)+2)+1<=(M:Int)+((k:Int)+2)+1:=om
   have hr4:=t9 HLR.out.2.2.2.1;have hun:=HDN.out.under (hr4 j);have hV2:vF (k+2) (lf vs)=V:=HT.out.2.1;have hq4:vF (k+3) (frm (lf rr) j)/V<4294967296:=Nat.div_lt_of_lt_mul (by rw[aA];rw[aA];exact hun)
   have HQ4:=ab hq4;clear hq4;have HUN:=ab hun;clear hun;have HV2:=ab hV2;clear hV2;clear hr4
   go_wp2_with fail
   rw[(om:j+(k+2)+1-j=k+3)]
   refine(Al gv w1' _ gr gv (M+(k+2)+1) (k+2+1) j k _ cv rr vs om om om om HLR.out HLV.out HT.out.2.2.2.2 HT.out.1 (by rw[HV2.out];exact HUN.out)
    (fun w=>LA gv w1' w gq (M+1) qs) (fun _ _ hs h=>h.still hs) (fun _ _ _ h=>h.other om om _ _) HLQ.out).mono ?_
   rintro e w5 ⟨rs',rfl,hA,hB,hQ,hout,hval⟩;rw[HV2.out]at hval ⊢;have hstep:=HDN.out.step (q':=lf (qs.set j (vF (k+3) (frm (lf rr) j)/V))) (r':=lf rs') HT.out.2.2.1 HT.out.2.2.2.1 (fun t ht=>hout t (a9 ht)) (fun t ht=>hout t (aR om)) hval (fun t ht=>fR (ai ht)) (rk (by rw[HLQ.out.2.2.1];omega))
   have HST:=ab hstep;clear hstep;have HQ5:=HQ4;clear HQ4 hval;generalize vF (k+3) (frm (lf rr) j)/V=q at HST HQ5 ⊢;have hq4:=HQ5.out;obtain⟨hcq,hfq⟩:=hQ.at_ (k:=j) om;have hput:=hQ.put (k:=j) (x:=q) om hq4;have HPU:=ab hput;clear hput;have HA:=ab (hA.other (g:=gq) om om j (.int .u32 (q:Nat)));have HB:=ab (hB.other (g:=gq) om om j (.int .u32 (q:Nat)));clear hA hB hQ hout;go_wp2
   go_roundw
   case rel=>exact⟨j,_,rs',om,rfl,HB,HA,HPU,HST⟩
   case measure=>simp[intOf]

def Fy(A D:Option Addr)(n m c d L:Nat)(xs ys:List Nat)(w:World)(h:n<=268435000)(l:m<=268435000)(e:L<=w.heap.size)(a:cE w L A n xs)(b:cE w L D m ys)(tx:oV xs)(ty:oV ys)(f:0<bC ys) :
  Calls ak 137 #[.slice A n c,.slice D m d] w (m9 w (bC xs/bC ys) (bC xs%bC ys)):=by
 by_cases i:bC xs<bC ys∨n<=2∨m<=1
 .exact Am A D n m c d L xs ys w om om e a b tx ty f i
 .have j:m<=n:=by
   have g:=fJ (om:bC ys<=bC xs)
   rw[<-aD a tx,<-aD b ty]at g;exact g
  obtain⟨k,rfl⟩:∃k,m=k+2:=⟨m-2,om⟩
  obtain⟨M,rfl⟩:∃M,n=M+(k+2):=⟨n-(k+2),om⟩
  exact Fw A D M k c d L xs ys w h om e a b tx ty f om
def Iu(va vb:Value)(za zb:Int)(B:Nat)(w:World)(e:B<=w.heap.size)(f:ew w B va za)(g:ew w B vb zb)(sa:nl za.natAbs<=268435000)(sb:nl zb.natAbs<=268435000)(h:zb≠0) :
  Calls ak 82 #[va,vb] w (xT w (za/zb) (za%zb)) :=
 A9 va vb za zb B w e f g om om h fun A D n m c d xs ys w i a b tx ty j k l=>by
  rw[<-k,<-aD a tx]at sa;rw[<-l,<-aD b ty]at sb;exact Fy A D n m c d B xs ys w sa sb i a b tx ty j

theorem oh:∀{n:Nat} {f g:Nat->Nat},(∀i,i<n->f i=g i)->ja n f=ja n g
 | 0,_,_,_=>rfl
 | n+1,f,g,h=>by
  simp only[ja];rw[h 0 om,oh (n:=n) fun i a=>h (i+1) om]
theorem Ce:∀{n:Nat} {f:Nat->Nat} {i:Nat},i<n->ja n f=f i*ja n (fun t=>if t=i then 1 else f t)
 | n+1,f,0,_=>by
  simp only[ja,aj];rw[mM,oh (n:=n) (f:=fun i=>if i+1=0 then 1 else f (i+1)) (g:=fun i=>f (i+1)) fun j _=>by rw[ah om]]
 | n+1,f,i+1,h=>by
  simp only[ja];rw[ah om,Ce (n:=n) (f:=fun i=>f (i+1)) (i:=i) om];rw[oh (n:=n) (f:=fun i_1=>if i_1+1=i+1 then 1 else f (i_1+1)) (g:=fun t=>if t=i then 1 else f (t+1)) fun j _=>by
   by_cases e:j=i
   .rw[aj e,aj om]
   .rw[ah e,ah om]]
  rw[<-bI,<-bI,aA (f 0)]
theorem wh:∀{n:Nat} {f:Nat->Nat},(∀i,i<n->1<=f i)->1<=ja n f
 | 0,_,_=>by simp[ja]
 | n+1,f,h=>by
  simp only[ja];exact yN (h 0 om) (wh fun i a=>h (i+1) om)
theorem Cf:∀{m N:Nat} {f:Nat->Nat} {O:Nat->Nat},(∀i,i<N->1<=f i)->(∀a,a<m->O a<N)->(∀a b,a<m->b<m->O a=O b->a=b)->ja m (fun a=>f (O a))<=ja N f
 | 0,_,_,_,h,_,_=>by simp only[ja];exact wh h
 | m+1,N,f,O,h,d,g=>by
  rw[Ce (d 0 om)];simp only[ja];refine aM _ ?_;have:=Cf (m:=m) (N:=N) (f:=fun t=>if t=O 0 then 1 else f t) (O:=fun a=>O (a+1)) (fun i c=>by
   split
   .exact ag _
   .exact h i c) (fun a j=>d (a+1) om) (fun a b j k e=>by
   have:=g (a+1) (b+1) om om e;omega)
  refine bO (vP (oh fun a j=>?_)) this;rw[ah fun e=>by have:=g (a+1) 0 om om e;omega]
def zr(c:∀r,dK N (A r)<=f r){k i j:Nat}(d:k+j<N){σ:Nat->Nat}(e:∀g:Nat->Int,dK N (fun b=>g (σ b))=dK N g) :
  (ci (fun x y=>A x (σ y)) k i j).natAbs<=ja (k+1) (fun a=>f (if a<k then a else k+i)):=by
 unfold ci;refine bO (DP _ _) (sV fun a _=>?_);refine bO (FP (fun y=>A (up k (fun _=>i) a) (σ y)) d) ?_;rw[e (A (up k (fun _=>i) a))];exact c _
def Bk{B:az}(t:∀r,r<N->dK N (B r)<=f r)(p:∀r,r<N->1<=f r){k i j:Nat}(v:k+i<N)(u:k+j<N){σ:Nat->Nat}(q:∀a,a<N->σ a<N) :
  (ci (fun a b=>B (σ a) b) k i j).natAbs<=ja N f:=by
 unfold ci;have s:∀a,a<k+1->up k (fun _=>i) a<N:=fun a g=>by unfold up;split<;>omega
 by_cases d:∀a b,a<k+1->b<k+1->σ (up k (fun _=>i) a)=σ (up k (fun _=>i) b)->a=b
 .refine bO (DP _ _) (bO (sV fun a g=>?_) (Cf (m:=k+1) (N:=N) (f:=f) (O:=fun a=>σ (up k (fun _=>i) a)) p (fun a g=>q _ (s a g)) d));exact bO (FP (fun y=>B (σ (up k (fun _=>i) a)) y) u) (t _ (q _ (s a g)))
 .have:∃a b,a<b/\b<k+1/\σ (up k (fun _=>i) a)=σ (up k (fun _=>i) b):=by
   refine dd fun l=>d fun a b g n e=>?_;rcases dp a b with h|h|h
   .exact(l ⟨a,b,h,n,e⟩).elim
   .exact h
   .exact(l ⟨b,a,h,g,e.symm⟩).elim
  obtain⟨a,b,o,n,e⟩:=this;rw[mt _ o n (fun c _=>by show B (σ (up k (fun _=>i) a)) _=B (σ (up k (fun _=>i) b)) _;rw[e])]
  have:=wh p;simp

def MV(n:Nat)(H:az)(v:gS):je n H (fun _=>0) v=0:=iN fun i _=>by simp
theorem uL(n:Nat)(H:az)(c:Nat->Int)(u:Nat->gS)(v:gS):∀m,je n H (fun i=>ap m (fun a=>c a*u a i)) v=ap m (fun a=>c a*je n H (u a) v)
 | 0=>MV n H v
 | m+1=>by
  have e:(fun i=>ap (m+1) (fun a=>c a*u a i))=fun i=>1*ap m (fun a=>c a*u a i)+c m*u m i:=by
   funext i;rw[cL];rfl
  rw[e,lE,uL n H c u v m,cL];rfl
def FM(d:∀a b,a<n->b<n->H a b=H b a)(c:Nat->Int)(u:Nat->gS)(v:gS)(m:Nat):je n H v (fun i=>ap m (fun a=>c a*u a i))=ap m (fun a=>c a*je n H v (u a)):=by
 rw[jl d,uL];exact ay fun a _=>by rw[jl d]
def Ky(b:i<n)(c:j<n):je n Q (dW i) (dW j)=Q i j:=by
 rw[Az b,cI j c (fun k _ a=>by simp[dW,a])]
 simp[dW]
def Mk{U W:az}(o:∀a b,a<n->b<n->Q a b=Q b a)(d:∀i j,i<n->j<n->mm n U W i j=if i=j then 1 else 0)(p:∀i j,i<n->j<n->A i j=je n Q (fun r=>U r i) (fun r=>U r j)){i j:Nat}(e:i<n)(f:j<n) :
  je n A (fun a=>W a i) (fun a=>W a j)=Q i j:=by
 have m:∀k,k<n->∀l,l<n->ap n (fun a=>W a k*U l a)=dW k l:=fun k q l c=>by
  have:=d l k c q;unfold mm at this;rw[ay (g:=fun a=>U l a*W a k) fun a _=>bU _ _,this];simp[dW]
 have s:je n A (fun a=>W a i) (fun a=>W a j)=ap n (fun a=>W a i*je n Q (fun r=>U r a) (fun l=>ap n (fun b=>W b j*U l b))):=by
  unfold je;refine ay fun a t=>?_;have h:=FM o (fun b=>W b j) (fun b r=>U r b) (fun r=>U r a) n;unfold je at h;rw[h,bU];congr 1;refine ay fun b u=>?_;rw[p a b t u,bU];rfl
 rw[s,<-uL n Q (fun a=>W a i) (fun a r=>U r a),<-Ky (Q:=Q) e f];exact se (fun l c=>m i e l c) (fun l c=>m j f l c)
def zt(h:d*d=1):d=1∨d=-1:=by
 have a:(d-1)*(d+1)=0:=by grind
 rcases fH.1 a with b|b<;>omega
def zY(n:Nat)(U:az):az:=fun i j=>if det n U=1 then jV n U i j else-jV n U i j
def G4(d:1<=n){U:az}(h:det n U*det n U=1){i j:Nat}(f:i<n)(c:j<n):mm n U (zY n U) i j=if i=j then 1 else 0:=by
 have e:mm n U (jV n U) i j=if j=i then det n U else 0:=by
  rw[<-tY U c f];exact ay fun k g=>by rw[AC d U c g]
 unfold zY;rcases zt h with a|a
 .have b:mm n U (fun i j=>if det n U=1 then jV n U i j else-jV n U i j) i j=mm n U (jV n U) i j:=ay fun k _=>by dsimp only;rw[aj a]
  rw[b,e,a];split<;>split<;>first|rfl|omega
 .have b:mm n U (fun i j=>if det n U=1 then jV n U i j else-jV n U i j) i j=- mm n U (jV n U) i j:=by
   unfold mm;rw[<-rR];exact ay fun k _=>by dsimp only;rw[ah om];grind
  rw[b,e,a];split<;>split<;>first|rfl|omega

def kw(A:az)(i j:Nat)(q:Int):az:=fun r c=>if c=i then A r i-q*A r j else A r c
def lW(A:az)(i:Nat):az:=fun r c=>if c=i then-A r i else A r c
def BY(A:az)(i j:Nat):az:=fun r c=>A r (c8 i j c)
def qz(n m:Nat)(A B:az):Prop:=∀x,eP n m A x↔eP n m B x
def qz.refl(n m:Nat)(A:az):qz n m A A:=fun _=>Iff.rfl
def qz.trans{B:az}(h:qz n m A B)(k:qz n m B C):qz n m A C:=fun x=>(h x).trans (k x)
def qz.of{B:az}(a:∀j,j<m->eP n m A (fun i=>B i j))(b:∀j,j<m->eP n m B (fun i=>A i j)):qz n m A B :=
 fun _=>⟨eP.sub (eP.lat n m B) b,eP.sub (eP.lat n m A) a⟩
def Fe(A:az){i k:Nat}(d:i<m)(c:k<m)(b:i≠k)(q:Int):qz n m A (kw A i k q):=by
 refine qz.of (fun j a=>?_) (fun j a=>?_)
 .by_cases e:j=i
  .subst e;exact(eP.lat n m A).ext _ _ ((eP.lat n m A).comb _ _ (eP.col a) (eP.col c) 1 (-q)) (fun r _=>by simp only[kw,aE];grind)
  .exact(eP.lat n m A).ext _ _ (eP.col a) (fun r _=>by simp[kw,e])
 .by_cases e:j=i
  .subst e;refine(eP.lat n m _).ext _ _ ((eP.lat n m _).comb _ _ (eP.col (j:=j) a) (eP.col (j:=k) c) 1 q) (fun r _=>?_);simp only[kw,aE,ah (ai b)];grind
  .exact(eP.lat n m _).ext _ _ (eP.col (j:=j) a) (fun r _=>by simp[kw,e])
def Ov(A:az){i k:Nat}(d:i<m)(e:k<m):qz n m A (BY A i k):=by
 have c:∀j,j<m->c8 i k j<m:=fun j a=>by unfold c8;split<;>(try split)<;>omega
 have b:∀j,c8 i k (c8 i k j)=j:=fun j=>by unfold c8;grind
 refine qz.of (fun j a=>eP.col (c j a)) (fun j a=>?_);have:=eP.col (n:=n) (B:=BY A i k) (c j a);simpa only[BY,b]using this
def Ma(A:az){i:Nat}(b:i<m):qz n m A (lW A i):=by
 refine qz.of (fun j a=>?_) (fun j a=>?_)
 .by_cases e:j=i
  .subst e;exact(eP.lat n m A).ext _ _ ((eP.lat n m A).smul (eP.col a) (-1)) (fun r _=>by simp[lW])
  .exact(eP.lat n m A).ext _ _ (eP.col a) (fun r _=>by simp[lW,e])
 .by_cases e:j=i
  .subst e;exact(eP.lat n m _).ext _ _ ((eP.lat n m _).smul (eP.col (j:=j) a) (-1)) (fun r _=>by simp[lW])
  .exact(eP.lat n m _).ext _ _ (eP.col (j:=j) a) (fun r _=>by simp[lW,e])
def rG(x q y:Int):(x-q*y).natAbs<=x.natAbs+q.natAbs*y.natAbs:=by
 rw[<-cN];omega
def MB{s q r:Int}(b:q.natAbs*s.natAbs<=a.natAbs+r.natAbs):xj.natAbs*r.natAbs+(xc-q*xj).natAbs*s.natAbs<=xc.natAbs*s.natAbs+xj.natAbs*a.natAbs+2*(xj.natAbs*r.natAbs):=by
 have c:=aq s.natAbs (rG xc q xj);have d:=aM xj.natAbs b;rw[dJ]at c;rw[bW]at d;have e:q.natAbs*xj.natAbs*s.natAbs=xj.natAbs*(q.natAbs*s.natAbs):=by rw[aA q.natAbs,bI]
 omega
def O7{s q r:Int}(b:q.natAbs*s.natAbs+r.natAbs<=a.natAbs):xj.natAbs*r.natAbs+(xc-q*xj).natAbs*s.natAbs<=xc.natAbs*s.natAbs+xj.natAbs*a.natAbs:=by
 have c:=aq s.natAbs (rG xc q xj);have d:=aM xj.natAbs b;rw[dJ]at c;rw[bW]at d;have e:q.natAbs*xj.natAbs*s.natAbs=xj.natAbs*(q.natAbs*s.natAbs):=by rw[aA q.natAbs,bI]
 omega
def Rn{s:Int}(b:s≠0):0<=a-a/s*s/\(a-a/s*s).natAbs<s.natAbs/\(a/s).natAbs*s.natAbs<=a.natAbs+(a-a/s*s).natAbs:=by
 have e:=aV a b;have f:=Il a b;have c:=dx a s;rw[bU s]at c;have d:(a/s).natAbs*s.natAbs=(a/s*s).natAbs:=(cN ..).symm;rw[d];generalize a/s*s=z at *;omega
def O8{s:Int}(d:0<a)(e:0<s):(a/s).natAbs*s.natAbs+(a-a/s*s).natAbs<=a.natAbs:=by
 have f:=aV a (om:s≠0)
 have b:=dx a s;rw[bU s]at b;have c:(a/s).natAbs*s.natAbs=(a/s*s).natAbs:=(cN ..).symm;have g:0<=a/s*s:=cD (mA om om) om;rw[c];generalize a/s*s=z at *;omega
def SJ(N X Y row c j:Nat)(A:az):Prop :=
 ((A row c).natAbs<=Y/\(A row j).natAbs<=Y)/\((∀r,r<N->(A r c).natAbs<=X/\(A r j).natAbs<=X) ∨
 (0<=A row j/\(A row j).natAbs<(A row c).natAbs/\(∀r,r<N->(A r c).natAbs<=12*(X*Y)) /\
  ((∀r,r<N->(A r c).natAbs*(A row j).natAbs+(A r j).natAbs*(A row c).natAbs<=4*(X*Y)) ∨
    (0<A row c/\∀r,r<N->(A r c).natAbs*(A row j).natAbs+(A r j).natAbs*(A row c).natAbs<=12*(X*Y)))))
def Li(A:az)(row c j:Nat):az:=BY (kw A c j (A row c/A row j)) c j
def MC{row r:Nat}(h:c≠j):Li A row c j r c=A r j:=by
 simp[Li,BY,kw,c8,ai h]
def Ji{row r:Nat}(h:c≠j):Li A row c j r j=A r c-A row c/A row j*A r j:=by
 simp[Li,BY,kw,c8,ai h]
def Ft{row r:Nat}(a:k≠c)(b:k≠j):Li A row c j r k=A r k:=by
 simp[Li,BY,kw,c8,a,b]
def Fd(X:Nat):X<=X*X:=by
 rcases bD X with h|h
 .subst h;omega
 .exact tD X h
def SJ.bd{row:Nat}(h:SJ N X Y row c j A)(d:0<Y){r:Nat}(b:r<N):(A r c).natAbs<=12*(X*Y)/\(A r j).natAbs<=12*(X*Y):=by
 have f:X<=X*Y:=tD X d;rcases h.2 with h|⟨g,i,e,a⟩
 .have:=h r b;omega
 .refine⟨e r b,?_⟩;have k:=aM (A r j).natAbs (om:1<=(A row c).natAbs)
  rcases a with a|⟨_,a⟩
  .have:=a r b;omega
  .have:=a r b;omega
def SJ.step{row:Nat}(h:SJ N X Y row c j A)(l:0<Y)(b:c≠j)(m:A row j≠0):SJ N X Y row c j (Li A row c j)/\(Li A row c j row j).natAbs<(A row j).natAbs:=by
 obtain⟨n,f,g⟩:=Rn (a:=A row c) m;obtain⟨o,q⟩:=h.1;refine⟨⟨by rw[MC b,Ji b];omega,aR ?_⟩,by rw[Ji b];exact f⟩
 simp only[MC b,Ji b];refine⟨n,f,fun r d=>(h.bd l d).2,?_⟩;rcases h.2 with h|⟨v,w,x,e⟩
 .refine a9 fun r d=>?_;obtain⟨s,i⟩:=h r d;have p:=MB (xc:=A r c) (xj:=A r j) g;have k:=bB s q;have y:=bB i o;have t:=bB i (show(A row c-A row c/A row j*A row j).natAbs<=Y by omega)
  omega
 .rcases e with e|⟨u,e⟩
  .refine aR ⟨om,fun r d=>?_⟩
   have p:=MB (xc:=A r c) (xj:=A r j) g;have k:=e r d;have t:=aM (A r j).natAbs (show(A row c-A row c/A row j*A row j).natAbs<=(A row c).natAbs by omega)
   omega
  .refine aR ⟨om,fun r d=>?_⟩
   have p:=O7 (xc:=A r c) (xj:=A r j) (O8 u (om:0<A row j))
   have k:=e r d;omega
def gg(K m:Nat):Nat->Nat
 | 0=>K
 | i+1=>(if i=0 then 1 else 2)*(gg K m i+(m-1-i)*(gg K m i+4))+4
theorem P5(K m:Nat):∀i d,gg K m i<=gg K m (i+d)
 | i,0=>ag _
 | i,d+1=>by have:=P5 K m i d;show _<=(if i+d=0 then 1 else 2)*(gg K m (i+d)+_)+4;split<;>omega
def Jf{i':Nat}(h:i<=i'):gg K m i<=gg K m i':=by
 obtain⟨d,rfl⟩:∃d,i'=i+d:=⟨i'-i,om⟩
 exact P5 K m i d
def p12(k j:Nat):12*(2^k*2^j)<=2^(k+j+4):=by
 rw[<-fz,fz 2 (k+j) 4];omega
def pj{a b:Nat}(h:a<=b):2^a<=2^b:=cp om h
structure Lp(n m row c j:Nat)(A0 A:az):Prop where
 lat:qz n m A0 A
 left:∀r k,k<c->A r k=A0 r k
 low:∀r k,r<row->c<=k->k<m->A r k=0
 done:∀k,c<k->k<j->A row k=0
def Bd(N m K:Nat)(A:az):Prop:=∀r k,r<N->k<m->(A r k).natAbs<=2^K
structure PS(n m N K b row c j:Nat)(A0 A:az):Prop where
 ga:Lp n m row c j A0 A
 oth:∀r k,r<N->k<m->k≠c->k≠j->(A r k).natAbs<=2^K
 rw:∀k,c<=k->k<m->(A row k).natAbs<=2^b
 eu:SJ N (2^K) (2^b) row c j A
def Lp.eu{b row:Nat}(h:Lp n m row c j A0 A)(d:Bd N m K A)(e:∀k,c<=k->k<m->(A row k).natAbs<=2^b)(g:c<m)(f:c<=j)(i:j<m):PS n m N K b row c j A0 A :=
 ⟨h,fun r k a l _ _=>d r k a l,e,⟨e c (ag _) g,e j f i⟩,a9 fun r a=>⟨d r c a g,d r j a i⟩⟩
def PS.step{b row:Nat}(h:PS n m N K b row c j A0 A)(q:c<j)(o:j<m)(s:A row j≠0):PS n m N K b row c j A0 (Li A row c j)/\(Li A row c j row j).natAbs<(A row j).natAbs:=by
 obtain⟨p,t⟩:=h.eu.step (iL om) om s;refine⟨⟨⟨h.ga.lat.trans ((Fe A om o om _).trans (Ov _ om o)),fun r k a=>?_,fun r k e a d=>?_,fun k i l=>?_⟩,fun r k e a i l=>?_,fun k a d=>?_,p⟩,t⟩
 .rw[Ft om om];exact h.ga.left r k a
 .have u:=h.ga.low r c e om om;have z2:=h.ga.low r j e om o;by_cases f:k=c
  .subst f;rw[MC om];exact z2
  .by_cases g:k=j
   .subst g;rw[Ji om,u,z2];simp
   .rw[Ft f g];exact h.ga.low r k e a d
 .rw[Ft om om];exact h.ga.done k i l
 .rw[Ft i l];exact h.oth r k e a i l
 .by_cases f:k=c
  .subst f;exact p.1.1
  .by_cases g:k=j
   .subst g;exact p.1.2
   .rw[Ft f g];exact h.rw k a d
def PS.bd{b row:Nat}(h:PS n m N K b row c j A0 A):Bd N m (K+b+4) A:=fun r k a g=>by
 have e:=p12 K b;have i:=pj (om:K<=K+b+4)
 have l:=h.eu.bd (iL om) a;by_cases d:k=c
 .subst d;omega
 .by_cases f:k=j
  .subst f;omega
  .have:=h.oth r k a g d f;omega
def PS.fin{b row:Nat}(h:PS n m N K b row c j A0 A)(a:A row j=0):Lp n m row c (j+1) A0 A/\Bd N m (K+b+4) A :=
 ⟨⟨h.ga.lat,h.ga.left,h.ga.low,fun k d f=>by
  by_cases e:k=j
  .subst e;exact a
  .exact h.ga.done k d om⟩,h.bd⟩
def Lp.neg{row:Nat}(h:Lp n m row c j A0 A)(e:Bd N m K A)(f:c<m):Lp n m row c j A0 (lW A c)/\Bd N m K (lW A c):=by
 refine⟨⟨h.lat.trans (Ma A f),fun r k a=>?_,fun r k b a d=>?_,fun k g i=>?_⟩,fun r k b a=>?_⟩
 .simp only[lW];rw[ah om];exact h.left r k a
 .simp only[lW];have l:=h.low r c b om om;split
  .omega
  .exact h.low r k b a d
 .simp only[lW];rw[ah om];exact h.done k g i
 .simp only[lW];have l:=e r c b f;split
  .omega
  .exact e r k b a
def Gu(d:sM m i A)(f:i<=m){x c:gS}(g:∀r,r<i->x r=ap m (fun j=>A r j*c j))(h:∀r,r<i->x r=0):∀j,j<i->c j=0:=by
 intro j
 induction j using kT with
 | _ j ih =>
  intro b;have e:=g j b;rw[h j b,cI j om (fun k l n=>by
   rcases aB k j with a|a
   .rw[ih k a om];simp
   .rw[(d j b).1 k om l];simp)]at e
  rcases fH.1 e.symm with a|a
  .have:=(d j b).2;omega
  .exact a
structure JD(n m N K i:Nat)(A0 A:az):Prop where
 lat:qz n m A0 A
 tri:sM m i A
 red:∀r j,r<i->j<r->0<=A r j/\A r j<A r r
 bd:Bd N m (gg K m i) A
def JD.ga(h:JD n m N K i A0 A):Lp n m i i (i+1) A A :=
 ⟨qz.refl n m A,fun _ _ _=>rfl,fun r k b c a=>(h.tri r b).1 k om a,fun k d e=>om⟩
def JD.piv(h:JD n m N K i A0 A)(d:Lp n m i i m A A1)(p:i<n)(q:n<=m)(s:∃M,M≠0/\eP n m A0 (gH M i))(z:0<=A1 i i):sM m (i+1) A1/\∀r j,r<i->j<r->0<=A1 r j/\A1 r j<A1 r r:=by
 have l:sM m i A1:=fun r a=>⟨fun j f b=>by
   rcases aB j i with g|g
   .rw[d.left r j g];exact(h.tri r a).1 j f b
   .exact d.low r j a g b,by rw[d.left r r a];exact(h.tri r a).2⟩
 have t:A1 i i≠0:=fun e=>by
  obtain⟨M,u,v⟩:=s;obtain⟨c,o⟩:=(h.lat.trans d.lat _).1 v;have w:=Gu l om (fun r a=>o r om) (fun r a=>by simp only[gH];rw[ah om])
  have f:=o i p;rw[iN fun k x=>by
   rcases dp k i with b|b|b
   .rw[w k b];simp
   .rw[b,e];simp
   .rw[d.done k b x];simp]at f
  simp only[gH,aE]at f;exact u f
 refine⟨fun r a=>?_,fun r j a y=>?_⟩
 .by_cases e:r=i
  .subst e;exact⟨fun j f b=>d.done j f b,om⟩
  .exact l r om
 .rw[d.left r j om,d.left r r a];exact h.red r j a y
structure PI(n m N K b i s:Nat)(A0 A:az):Prop where
 lat:qz n m A0 A
 tri:sM m (i+1) A
 red:∀r j,r<i->j<r->0<=A r j/\A r j<A r r
 now:∀j,j<s->0<=A i j/\A i j<A i i
 bd:∀r k,r<N->k<m->(A r k).natAbs<=if k<s then 2^(2*K+4)else 2^K
 rw:∀k,s<=k->k<=i->(A i k).natAbs<=2^b
def PI.step{b:Nat}(h:PI n m N K b i s A0 A)(y:s<i)(d:i<m)(o:i<N):PI n m N K b i (s+1) A0 (kw A s i (A i s/A i i)):=by
 have p:=(h.tri i om).2;have z:∀r,r<i->A r i=0:=fun r a=>(h.tri r om).1 i a d;have keep:∀r k,r<i->kw A s i (A i s/A i i) r k=A r k:=fun r k a=>by
  simp only[kw];split
  .rename_i e;rw[z r a,e];simp
  .rfl
 have oth:∀r k,k≠s->kw A s i (A i s/A i i) r k=A r k:=fun r k l=>by simp[kw,l]
 refine⟨h.lat.trans (Fe A om d om _),fun r a=>?_,fun r j a q=>?_,fun j q=>?_,fun r k a l=>?_,fun k f c=>by rw[oth i k om];exact h.rw k om c⟩
 .by_cases e:r=i
  .subst e;exact⟨fun j f c=>by rw[oth r j om];exact(h.tri r om).1 j f c,by rw[oth r r om];exact p⟩
  .refine⟨fun j f c=>?_,?_⟩
   .rw[keep r j om];exact(h.tri r a).1 j f c
   .rw[keep r r om];exact(h.tri r a).2
 .rw[keep r j a,keep r r a];exact h.red r j a q
 .rw[oth i i om];by_cases e:j=s
  .subst e;simp only[kw,aE];have f:=aV (A i j) (om:A i i≠0)
   have c:=aU (A i j) p;have t:=dx (A i j) (A i i);rw[bU (A i i)]at t;omega
  .rw[oth i j e];exact h.now j om
 .by_cases e:k=s
  .subst e;rw[aj om];simp only[kw,aE];have g:=h.bd r k a l;have u:=h.bd r i a d;have v:=h.bd i k o l;rw[ah om]at g u v;have f:=rG (A r k) (A i k/A i i) (A r i);have c:=jD (A i k) (A i i);have t:=bB (bO c v) u;have x:=p12 K K;rw[(om:K+K+4=2*K+4)]at x
   have B:=Fd (2^K);omega
  .rw[oth r k e];have g:=h.bd r k a l;by_cases w:k<s
   .rw[aj w]at g;rw[aj om];exact g
   .rw[ah w]at g;rw[ah om];exact g
def JD.re(h:JD n m N K i A0 A)(d:n<=N)(a:Lp n m i i m A A1)(f:Bd N m K' A1)(g:(A1 i i).natAbs<=2^gg K m i)(l:i<n)(b:n<=m)(o:∃M,M≠0/\eP n m A0 (gH M i))(p:0<=A1 i i):PI n m N K' (gg K m i) i 0 A0 A1:=by
 obtain⟨q,s⟩:=h.piv a l b o p;refine⟨h.lat.trans a.lat,q,s,fun j u=>om,fun r k t c=>by rw[ah om];exact f r k t c,fun k _ c=>?_⟩
 by_cases e:k=i
 .rw[e];exact g
 .rw[a.left i k om];exact h.bd i k om om
def PI.fin{b:Nat}(h:PI n m N K' b i i A0 A)(f:(if i=0 then 1 else 2)*K'+4<=gg K m (i+1)):JD n m N K (i+1) A0 A:=by
 refine⟨h.lat,h.tri,fun r j a c=>?_,fun r k a g=>?_⟩
 .by_cases e:r=i
  .subst e;exact h.now j c
  .exact h.red r j om c
 .have d:=h.bd r k a g;have l:=pj f;by_cases e:i=0
  .rw[ah om]at d;have o:=pj (show K'<=(if i=0 then 1 else 2)*K'+4 by rw[aj e];omega)
   omega
  .rw[ah e]at l;have o:=pj (om:K'<=2*K'+4)
   split at d<;>omega
def JD.init(a:Bd N m K A):JD n m N K 0 A A :=
 ⟨qz.refl n m A,fun r b=>om,fun r j b _=>om,a⟩
def JD.cut(h:JD n (n+1) N K n A0 A)(y:gS):eP n n A y↔eP n (n+1) A0 y:=by
 refine Iff.trans ?_ (h.lat y).symm;have z:∀r,r<n->A r n=0:=fun r d=>(h.tri r d).1 n d om;constructor
 .rintro⟨c,b⟩;exact⟨c,fun i a=>by rw[b i a];simp only[ap];rw[z i a];omega⟩
 .rintro⟨c,b⟩;exact⟨c,fun i a=>by rw[b i a];simp only[ap];rw[z i a];omega⟩



def JT(A:az)(m k:Nat)(x:gS):Int:=ap m (fun j=>ci A k (j+1) 0*x (k+(j+1)))
def Pd.qSt_eq(h:Pd A n)(t:n=k+(m+1))(x:gS):det (k+1) A*yf A n k x=(det (k+1) A*x k+JT A m k x)*(det (k+1) A*x k+JT A m k x)+det k A*yf A n (k+1) x:=by
 have e:∀i j,i<m->j<m->det (k+1) A*ci A k (i+1) (j+1)=det k A*ci A (k+1) i j+ci A k (i+1) 0*ci A k (j+1) 0:=fun i j c b=>h.stg_rec2 om om;have f:∀j,j<m->ci A k 0 (j+1)=ci A k (j+1) 0:=fun j b=>h.stg_sym k 0 (j+1) om om;have g:n-k=m+1:=om
 have l:n-(k+1)=m:=om
 obtain⟨L,a⟩:∃L,L=JT A m k x:=⟨_,rfl⟩;obtain⟨Q,d⟩:∃Q,Q=ap m (fun i=>(ap m fun j=>ci A k (i+1) (j+1)*x (k+(j+1)))*x (k+(i+1))):=⟨_,rfl⟩;rw[<-a];unfold JT at a;have o:yf A n k x=det (k+1) A*x k*x k+L*x k+(x k*L+Q):=by
  unfold yf;rw[g,iD];have p:(ap (m+1) fun j=>ci A k 0 j*x (k+j))=det (k+1) A*x k+L:=by
   rw[iD,cG,a];congr 1;exact ay fun j b=>by rw[f j b]
  have q:ap m (fun i=>(ap (m+1) fun j=>ci A k (i+1) j*x (k+j))*x (k+(i+1)))=x k*L+Q:=by
   rw[a,d,<-cF,<-dD];refine ay fun i _=>?_;rw[iD,cu]
   grind
  rw[p,q,sA];rfl
 have r:det (k+1) A*Q=det k A*yf A n (k+1) x+L*L:=by
  unfold yf;rw[l,d,<-cF,<-cF];have s:L*L=ap m (fun i=>L*(ci A k (i+1) 0*x (k+(i+1)))):=by rw[cF,<-a]
  rw[s,<-dD];refine ay fun i c=>?_;have u:det (k+1) A*(ap m fun j=>ci A k (i+1) (j+1)*x (k+(j+1)))=det k A*(ap m fun j=>ci A (k+1) i j*x (k+1+j))+ci A k (i+1) 0*L:=by
   rw[a,<-cF,<-cF,<-cF,<-dD];refine ay fun j b=>?_;have:=e i j c b;rw[(om:k+1+j=k+(j+1))]
   grind
  rw[(om:k+1+i=k+(i+1))]
  grind
 rw[o];grind
def Pd.qSt_nn(h:Pd A n)(x:gS):∀m k,k+m=n->0<=yf A n k x
 | 0,k,a=>by
  unfold yf;rw[(om:n-k=0)]
  exact mS _
 | m+1,k,a=>by
  have e:=h.qSt_eq (k:=k) (m:=m) a.symm x;have b:=cD (bn (h.pos k om)) (h.qSt_nn x m (k+1) om);have c:=iK (det (k+1) A*x k+JT A m k x);exact Int.nonneg_of_mul_nonneg_right om (h.pos (k+1) om)
def Ms(m:Nat)(c y:Nat->Int)(h:∀j,j<m->2*((c j).natAbs:Int)<=D)(a:0<=D):2*((ap m (fun j=>c j*y j)).natAbs:Int)<=D*ap m (fun j=>((y j).natAbs:Int)):=by
 induction m with
 | zero=>simp[ap]
 | succ m ih =>
  have b:=ih fun j d=>h j om;have e:=bK (h m om) (om:0<=((y m).natAbs:Int))
  have f:((c m*y m).natAbs:Int)=(c m).natAbs*(y m).natAbs:=by rw[cN,aX]
  simp only[ap];rw[yR];have g:2*((c m).natAbs:Int)*(y m).natAbs=2*((c m).natAbs*(y m).natAbs):=by grind
  omega
def Eb.coords(h:Eb R n){x:gS}{Y:Int}(c:0<=Y)(l:64000*je n R x x<=Y*Y):∀m k,k+m=n ->
  2^m*ap m (fun j=>((x (k+j)).natAbs:Int))<=2*Y*(3^m-2^m)
 | 0,k,d=>by simp[ap]
 | m+1,k,d=>by
  have ih:=h.coords c l m (k+1) om;have o:=h.pd.pos k om;have b:=h.pd.pos (k+1) om;have e:=h.pd.qSt_eq (k:=k) (m:=m) d.symm x;have z:=cD (bn o) (h.pd.qSt_nn x m (k+1) om);have p:=h.pd.qSt_le x k om;rw[zG]at p;have q:0<=je n R x x:=by rw[<-zG];exact h.pd.qSt_nn x n 0 om
  have A:=bK (h.lead k om) q;obtain⟨L,f⟩:∃L,L=JT R m k x:=⟨_,rfl⟩;have g:2*(L.natAbs:Int)<=det (k+1) R*ap m (fun j=>((x (k+1+j)).natAbs:Int)):=by
   rw[f,show(fun j=>((x (k+1+j)).natAbs:Int))=fun j=>((x (k+(j+1))).natAbs:Int) by funext j;rw[(om:k+1+j=k+(j+1))]]
   refine Ms m _ _ (fun j B=>?_) om;have:=h.rows.1 (k+(j+1)) om k om;unfold gI eZ at this
   rwa [(om:k+(j+1)-k=j+1)]at this
  rw[<-f]at e;obtain⟨D,r⟩:∃D,D=det (k+1) R:=⟨_,rfl⟩;rw[<-r]at e g b;have s:(D*x k+L)*(D*x k+L)<=(D*Y)*(D*Y):=by
   have t:=aW (om:yf R n k x<=Y*Y) (bn b)
   have v:=bK (show D<=D*D by have:=aW (om:1<=D) (bn b);omega) (cD c c)
   have C:(D*Y)*(D*Y)=D*D*(Y*Y):=by grind
   omega
  have E:=rU (cD (bn b) c) s;have F:((D*x k).natAbs:Int)=D*(x k).natAbs:=by rw[cN,aX,Int.natAbs_of_nonneg om]
  obtain⟨T,i⟩:∃T,T=ap m (fun j=>((x (k+1+j)).natAbs:Int)):=⟨_,rfl⟩;rw[<-i]at g ih;have y:2*((x k).natAbs:Int)<=2*Y+T:=by
   refine iy (a:=D) ?_ b;have t:D*(2*((x k).natAbs:Int))=2*(D*(x k).natAbs):=by grind
   have v:D*(2*Y+T)=2*(D*Y)+D*T:=by grind
   omega
  rw[iD,cu,show ap m (fun j=>((x (k+(j+1))).natAbs:Int))=T by rw[i];exact ay fun j _=>by rw[(om:k+1+j=k+(j+1))]]
  have G:=aW y (show 0<=(2:Int)^m by exact bn (Ik om))
  rw[eC,eC];generalize (2:Int)^m=u at *;generalize (3:Int)^m=w at *
  grind
def C1(f:Nat->Int)(a:∀j,0<=f j){j:Nat}(b:j<m):f j<=ap m f:=by
 induction m with
 | zero=>omega
 | succ m ih =>
  simp only[ap];have c:0<=ap m f:=by
   clear ih b
   induction m with
   | zero=>exact mS _
   | succ m ih=>simp only[ap];have:=a m;omega
  by_cases e:j=m
  .subst e;omega
  .have:=ih om;have:=a m;omega
def Eb.coord8(h:Eb R n)(c:n<=8){x:gS}(d:je n R x x<=1128906250000000){j:Nat}(a:j<n):(x j).natAbs<=1099511627776:=by
 have b:=h.coords (x:=x) (Y:=8500000000) dc om n 0 om
 have e:=C1 (fun j=>((x j).natAbs:Int)) (fun j=>om) a
 simp only[aJ]at b;generalize ap n (fun j=>((x j).natAbs:Int))=T at *;rcases (om:n=0∨n=1∨n=2∨n=3∨n=4∨n=5∨n=6∨n=7∨n=8)with rfl|rfl|rfl|rfl|rfl|rfl|rfl|rfl|rfl<;>omega

def yh(k:Nat)(a0 b0:Int)(m:Nat->Int)(L:az)(i:Nat):Int:=(m (k-1)*L i k+L i (k-1)*b0)/a0
def td(k:Nat)(p:PL)(a0 b0:Int)(m:Nat->Int)(L:az)(i:Nat):Int:=p.f0*L i (k-1)+p.f1*yh k a0 b0 m L i
def z8(k:Nat)(p:PL)(a0 b0:Int)(m:Nat->Int)(L:az)(i:Nat):Int:=p.s0*L i (k-1)+p.s1*yh k a0 b0 m L i
def OH(k:Nat)(p:PL)(a0 b0:Int)(m:Nat->Int)(L:az)(i:Nat):Int:=(p.a*z8 k p a0 b0 m L i-p.b*td k p a0 b0 m L i)/m (k-1)
def te(k:Nat)(p:PL)(a0 b0:Int)(m:Nat->Int)(L:az):az:=fun i c =>
 if i=k-1 then p.f0*L (k-1) c+p.f1*L k c
 else if i=k then(if c=k-1 then p.b else p.s0*L (k-1) c+p.s1*L k c)
 else if k<i then(if c=k-1 then td k p a0 b0 m L i else if c=k then OH k p a0 b0 m L i else L i c)
 else L i c
def OG(b:Pd A n)(d:0<k)(f:k<i)(a:i<n):yh k (det k A) (eZ A k (k-1)) (fun c=>det c A) (eZ A) i=ci A (k-1) (i-(k-1)) 1:=by
 have h:=b.lam_up d f a;unfold yh;have e:det (k-1) A*eZ A i k+eZ A i (k-1)*eZ A k (k-1)=det k A*ci A (k-1) (i-(k-1)) 1:=by
  rw[h];unfold eZ;grind
 rw[e,cj _ (b.ne (k:=k) om k (ag _))]
def OI{e:Nat}(r:Pd A n)(h:AR A n k e p)(l:0<k)(B:k<n){i j:Nat}(m:j<i)(s:i<n):te k p (det k A) (eZ A k (k-1)) (fun c=>det c A) (eZ A) i j=eZ (jc A k p.f0 p.f1 p.s0 p.s1) i j:=by
 unfold te;by_cases f:i=k-1
 .rw[aj f,f,FK om]
 rw[ah f];by_cases g:i=k
 .rw[aj g,g];by_cases d:j=k-1
  .rw[aj d,d];exact h.pl.pb.symm
  .rw[ah d,FJ om]
 rw[ah g];by_cases d:k<i
 .rw[aj d];have t:=OG r l d s;obtain⟨w,x⟩:=RB (A:=A) (f0:=p.f0) (f1:=p.f1) (s0:=p.s0) (s1:=p.s1) l d;have u:td k p (det k A) (eZ A k (k-1)) (fun c=>det c A) (eZ A) i=eZ (jc A k p.f0 p.f1 p.s0 p.s1) i (k-1):=by
   unfold td;rw[t];exact w.symm
  have y:z8 k p (det k A) (eZ A k (k-1)) (fun c=>det c A) (eZ A) i=ci (jc A k p.f0 p.f1 p.s0 p.s1) (k-1) (i-(k-1)) 1:=by
   unfold z8;rw[t];exact x.symm
  by_cases o:j=k-1
  .rw[aj o,u,o]
  rw[ah o];by_cases q:j=k
  .rw[aj q,q];have v:=h.pl.pd.lam_up l d s;rw[h.pl.lead (k-1) om,h.pl.pa,h.pl.pb]at v;unfold OH;rw[u,y];have e:p.a*ci (jc A k p.f0 p.f1 p.s0 p.s1) (k-1) (i-(k-1)) 1-p.b*eZ (jc A k p.f0 p.f1 p.s0 p.s1) i (k-1)=det (k-1) A*eZ (jc A k p.f0 p.f1 p.s0 p.s1) i k:=by
    rw[v];unfold eZ;grind
   rw[e,cj _ (r.ne (k:=k) om (k-1) om)]
  .rw[ah q];rcases aB j k with z|z
   .rw[oB om f g m]
   .rw[h.pl.up i j om m]
 .rw[ah d,oB om f g m]
structure LSb(Q:az)(n K:Nat)(T:az):Prop where
 dt:∀k,k<n+1->(det k (gT Q n T)).natAbs<2^K
 lm:∀i c,i<n->c<i->(eZ (gT Q n T) i c).natAbs<2^K
 tt:∀i j,i<n->j<n->(T i j).natAbs<2^K
def LS.bits{T:az}{d e:Nat}{w:Nat->Nat}(h:LS Q n d w T)(q:Pd Q n)(v:1<=n)(r:∀i,i<n->Q i i<=2^e)(s:e*n<=d)(l:∀i,i<n->w i<=W)(o:d+W<K):LSb Q n K T:=by
 obtain⟨m,rfl⟩:∃m,n=m+1:=⟨n-1,om⟩
 have g:e*m<=d:=bO (aM e om) s;refine⟨fun k x=>?_,fun i c b t=>?_,fun i j b u=>?_⟩
 .have f:=h.lead k om;have p:=h.pd.pos k om;exact oi (a:=d) om om
 .have f:=h.lamB t b;have p:=l i b;exact oi (rh (a:=d+W) (cX f (dY om))) o
 .have f:=h.coord q r g b u;have p:=l i b;exact oi (rh (a:=d+W) (cX f (dY om))) o
def wR_le{d:Nat}(a:m<=n):wR d k m i<=5*d+13+n*(3*d+8):=by
 unfold wR;have:=aq (3*d+8) a;split
 .omega
 .split<;>omega
def AR.bits{e:Nat}(i:Pd A n)(h:AR A n k e p)(f:0<k)(g:k<n)(j:det k A<=2^e)(l:ci A (k-1) 1 1<=2^e)(d:e<K):p.a.natAbs<2^K/\p.b.natAbs<2^K/\p.c.natAbs<2^K/\p.f0.natAbs<2^K/\p.f1.natAbs<2^K/\p.s0.natAbs<2^K/\p.s1.natAbs<2^K:=by
 obtain⟨m,o,q,r,s⟩:=h.sq i f g j l;obtain⟨t,u⟩:=h.pos f g;have v:=h.a;have w:=h.c;exact⟨oi (a:=e) om d,oi (rh m) d,oi (a:=e) om d,oi (rh o) d,oi (rh q) d,oi (rh r) d,oi (rh s) d⟩

def mU(n:Nat)(A B:az):Prop:=∃s:Int,(s=1∨s=-1)/\det n B=s*det n A/\∀C:az,det n (mm n C B)=s*det n (mm n C A)
def mU.refl(n:Nat)(A:az):mU n A A:=⟨1,a9 rfl,by rw[cL],fun C=>by rw[cL]⟩
def mU.trans{B:az}(h:mU n A B)(k:mU n B C):mU n A C:=by
 obtain⟨s,a,b,c⟩:=h;obtain⟨t,d,e,f⟩:=k;refine⟨t*s,?_,by rw[e,b,et],fun D=>by rw[f,c,et]⟩
 rcases a with rfl|rfl<;>rcases d with rfl|rfl<;>decide
def mU.zero{B:az}(h:mU n A B)(a:det n B=0):det n A=0:=by
 obtain⟨s,b,c,_⟩:=h;rw[a]at c;rcases b with rfl|rfl<;>omega
def JJ(A:az){i k:Nat}(f:i<n)(g:k<n)(d:i≠k)(c:Int):mU n A (aT A i (fun r=>A r i+c*A r k)):=by
 have key:∀A:az,det n (aT A i (fun r=>A r i+c*A r k))=1*det n A:=fun A=>by
  have h:=kB A f g d 1 c;rw[<-h];simp only[cL]
 refine⟨1,a9 rfl,key A,fun C=>?_⟩;rw[<-key (mm n C A)];congr 1;funext a b;simp only[aT,mm];by_cases e:b=i
 .simp only[e,aE];rw[<-cF,<-dD];exact ay fun l _=>by grind
 .simp only[e,aH]
def Gx(A:az){i k:Nat}(d:i<n)(e:k<n)(c:i≠k):mU n A (fun a b=>A a (c8 i k b)):=by
 have key:∀A:az,det n (fun a b=>A a (c8 i k b))=-1*det n A:=fun A=>by rw[lk A d e c];omega
 exact⟨-1,aR rfl,key A,fun C=>key (mm n C A)⟩
def JK(A:az){i:Nat}(c:i<n):mU n A (aT A i (fun r=>- A r i)):=by
 have key:∀A:az,det n (aT A i (fun r=>- A r i))=-1*det n A:=fun A=>by
  have h:=me A c (-1) 0 (fun r=>A r i) (fun r=>A r i);have e:aT A i (fun r=>-1*A r i+0*A r i)=aT A i (fun r=>- A r i):=by congr 1;funext r;omega
  rw[e,gJ]at h;omega
 refine⟨-1,aR rfl,key A,fun C=>?_⟩;rw[<-key (mm n C A)];congr 1;funext a b;simp only[aT,mm];by_cases e:b=i
 .simp only[e,aE];rw[show -ap n (fun l=>C a l*A l i)=-1*ap n (fun l=>C a l*A l i) by omega,<-cF]
  exact ay fun l _=>by grind
 .simp only[e,aH]
def N0(G:i<n):∀(m:Nat) (A:az),dK n (fun j=>if i<=j then A i j else 0)=m->sM n i A->det n A≠0->∃B,mU n A B/\sM n (i+1) B:=by
 intro m
 induction m using kT with
 | ind m ih =>
  intro A L q H;by_cases z:∃d a,i<=d/\d<n/\i<=a/\a<n/\d≠a/\A i d≠0/\(A i d).natAbs<=(A i a).natAbs
  .obtain⟨d,a,C,u,v,s,t,w,y⟩:=z;have I:=JJ A s u (ai t) (-(A i a/A i d));have D:(A i a+-(A i a/A i d)*A i d).natAbs<(A i a).natAbs:=by
    have e:A i a+-(A i a/A i d)*A i d=A i a%A i d:=by
     rw[Ey];grind
    rw[e];have M:=aV (A i a) w;have N:=Il (A i a) w;omega
   have E:sM n i (aT A a (fun r=>A r a+-(A i a/A i d)*A r d)):=by
    refine fun r o=>⟨fun j g b=>?_,?_⟩
    .by_cases e:j=a
     .subst e;simp only[aT,aE];rw[(q r o).1 j g b,(q r o).1 d om u];simp
     .simp only[aT,e,aH];exact(q r o).1 j g b
    .simp only[aT];rw[ah om];exact(q r o).2
   obtain⟨B,p,f⟩:=ih (dK n (fun j=>if i<=j then aT A a (fun r=>A r a+-(A i a/A i d)*A r d) i j else 0)) (by
     rw[<-L];refine FQ s (fun j _ g=>?_) ?_
     .simp[aT,g]
     .simp only[v,aE,aT];exact D) _ rfl E (by
     exact fun l=>H (I.zero l))
   exact⟨B,I.trans p,f⟩
  .have F:∃c,i<=c/\c<n/\A i c≠0:=by
    rcases fL (∃c,i<=c/\c<n/\A i c≠0)with h|h
    .exact h
    .exfalso;refine H ?_;obtain⟨k,rfl⟩:∃k,n=k+1+i:=⟨n-i-1,om⟩
     rw[mX i A q,Ao (n:=k) _ (fun j g=>?_),kH];rcases fL (A (0+i) (j+i)=0)with l|l
     .exact l
     .exact absurd ⟨j+i,om,om,by rw[aJ]at l;exact l⟩ h
   obtain⟨c,C,u,v⟩:=F;have J:∀j,i<=j->j<n->j≠c->A i j=0:=by
    intro j s t w;rcases fL (A i j=0)with l|l
    .exact l
    .exfalso;rcases Nat.le_total (A i j).natAbs (A i c).natAbs with y|y
     .exact z ⟨j,c,s,t,C,u,w,l,y⟩
     .exact z ⟨c,j,C,u,s,t,ai w,v,y⟩
   have s:∃B,mU n A B/\sM n i B/\B i i≠0/\∀j,i<j->j<n->B i j=0:=by
    by_cases e:i=c
    .subst e;exact⟨A,mU.refl n A,q,v,fun j g b=>J j om b om⟩
    .refine⟨_,Gx A G u e,fun r o=>⟨fun j g b=>?_,?_⟩,?_,fun j g b=>?_⟩
     .have:r<c8 i c j/\c8 i c j<n:=by unfold c8;split<;>(try split)<;>omega
      exact(q r o).1 _ this.1 this.2
     .have:c8 i c r=r:=by unfold c8;rw[ah om,ah om]
      show 0<A r (c8 i c r);rw[this];exact(q r o).2
     .show A i (c8 i c i)≠0;have:c8 i c i=c:=by simp[c8]
      rw[this];exact v
     .show A i (c8 i c j)=0;refine J _ ?_ ?_ ?_<;>(unfold c8;split<;>(try split)<;>omega)
   obtain⟨B,p,f,O,x⟩:=s;rcases iI 0 (B i i)with t|t
   .refine⟨B,p,fun r o=>?_⟩;by_cases e:r=i
    .subst e;exact⟨x,t⟩
    .exact f r om
   .refine⟨_,p.trans (JK B G),fun r o=>⟨fun j g b=>?_,?_⟩⟩
    .simp only[aT];by_cases e:r=i
     .subst e;rw[ah om];exact x j g b
     .by_cases K:j=i
      .subst K;rw[aj rfl,(f r om).1 j g b];rfl
      .rw[ah K];exact(f r om).1 j g b
    .simp only[aT];by_cases e:r=i
     .subst e;rw[aj rfl];omega
     .rw[ah e];exact(f r om).2
def Kl(A B:az)(h:det n B≠0):det n (mm n A B)=det n A*det n B:=by
 have key:∀i,i<=n->∃T,mU n B T/\sM n i T:=by
  intro i
  induction i with
  | zero=>intro _;exact⟨B,mU.refl n B,fun r f=>om⟩
  | succ i ih =>
   intro o;obtain⟨T,a,b⟩:=ih om;obtain⟨C,d,j⟩:=N0 om _ T rfl b fun k=>h (a.zero k);exact⟨C,a.trans d,j⟩
 obtain⟨T,⟨s,a,b,d⟩,g⟩:=key n (ag _);have e:=mX (n:=0) n T (by rw[aJ];exact g)
 rw[aJ]at e;simp only[det,ir]at e;have l:=Ap A T (n:=n) (fun r c f m=>(g r om).1 c f m);rw[<-e,d,b]at l;rcases a with rfl|rfl
 .grind
 .grind
def J9(b:1<=n){U:az}(h:det n U*det n U=1){i j:Nat}(c:i<n)(d:j<n):mm n (zY n U) U i j=if i=j then 1 else 0:=by
 have e:=pD b U c d;unfold zY;rcases zt h with a|a
 .rw[a]at e;rw[<-e];exact ay fun k _=>by dsimp only;rw[aj a]
 .rw[a]at e;have f:mm n (fun i j=>if det n U=1 then jV n U i j else-jV n U i j) U i j=- mm n (jV n U) U i j:=by
   unfold mm;rw[<-rR];exact ay fun k _=>by dsimp only;rw[ah om];grind
  rw[f,e];split<;>rfl
def Ml(b:1<=n){U:az}(h:det n U*det n U=1):det n (zY n U)=1∨det n (zY n U)=-1:=by
 have c:det n U≠0:=fun e=>by rw[e]at h;simp at h
 have e:=Kl (zY n U) U c;rw[Hk n _ fun i j d f=>by rw[J9 b h d f];split<;>split<;>omega]at e
 rcases zt h with a|a
 .rw[a]at e;omega
 .rw[a]at e;omega

def nb(z:Int)(k:Nat):Prop:=z.natAbs<2^k
def nb.mono(h:nb z k)(a:k<=j):nb z j:=cZ h (cp om a)
def nb.nl(h:nb z k)(a:k<=32*N):nl z.natAbs<=N:=by
 rw[jQ,zJ];exact h.mono a
def nb.add(c:nb a k)(d:nb b k):nb (a+b) (k+1):=by
 unfold nb at *;rw[bV];omega
def nb.sub(c:nb a k)(d:nb b k):nb (a-b) (k+1):=by
 unfold nb at *;rw[bV];omega
def nb.mul(c:nb a k)(d:nb b j):nb (a*b) (k+j):=by
 unfold nb at *;rw[cN,fz];exact Nat.mul_lt_mul_of_lt_of_lt c d
def nb.neg(b:nb a k):nb (-a) k:=by unfold nb at *;omega
def nb.zero(k:Nat):nb 0 k:=iL om
def nb.one(h:0<k):nb 1 k:=cZ (by decide:1<2^1) (cp om h)
def nb.of_le(h:a.natAbs<=b.natAbs)(c:nb b k):nb a k:=dG h c
def Sq{f:Nat}(h:∀va vb B w,B<=w.heap.size->ew w B va za->ew w B vb zb->Calls ak f #[va,vb] w (dI w z)):PF f [.big za,.big zb] (.big z):=CE.pf rfl (QS h)
def pf1{f:Nat}(h:∀va B w,B<=w.heap.size->ew w B va za->Calls ak f #[va] w (dI w z)):PF f [.big za] (.big z):=CE.pf rfl (QT h)
def pf1i{f:Nat}{k:IntKind}(h:∀va B w,B<=w.heap.size->ew w B va za->Calls ak f #[va] w fun e w'=>e=.returned (.int k z)/\Below w.heap.size w w'):PF f [.big za] (.int k z):=by
 intro w vs _ a
 match vs,a with
 | [va],a =>
  simp only[a8,bH]at a;refine(h va w.heap.size w (ag _) a.1).mono ?_;rintro e w' ⟨rfl,b⟩;exact⟨_,rfl,by simp[bH],dA.below b⟩
 | [],a=>simp[a8]at a
 | _::_::_,a=>simp[a8]at a
def pf2i{f:Nat}{k:IntKind}(h:∀va vb B w,B<=w.heap.size->ew w B va za->ew w B vb zb->Calls ak f #[va,vb] w fun e w'=>e=.returned (.int k z)/\Below w.heap.size w w'):PF f [.big za,.big zb] (.int k z):=by
 intro w vs _ a
 match vs,a with
 | [va,vb],a =>
  simp only[a8,bH]at a;refine(h va vb w.heap.size w (ag _) a.1 a.2.1).mono ?_;rintro e w' ⟨rfl,b⟩;exact⟨_,rfl,by simp[bH],dA.below b⟩
 | [],a=>simp[a8]at a
 | [_],a=>simp[a8]at a
 | _::_::_::_,a=>simp[a8]at a
def IU{f:Nat}(h:∀w,Calls ak f #[.int .i64 z] w (dI w z)):PF f [.int .i64 z] (.big z):=by
 intro w vs _ a
 match vs,a with
 | [va],a =>
  simp only[a8,bH]at a;obtain⟨rfl,_⟩:=a;refine(h w).mono ?_;rintro e w' ⟨v,rfl,b,c⟩;exact⟨v,rfl,by simpa [bH]using b,dA.below c⟩
 | [],a=>simp[a8]at a
 | _::_::_,a=>simp[a8]at a
def IW{f:Nat}(h:∀va B w,B<=w.heap.size->ew w B va z->Calls ak f #[va] w fun e w'=>e=.returned (.tuple #[.int .i64 z,.bool true])/\Below w.heap.size w w'):PF f [.big z] (.tup [.int .i64 z,.bool true]):=by
 intro w vs _ a
 match vs,a with
 | [va],a =>
  simp only[a8,bH]at a;refine(h va w.heap.size w (ag _) a.1).mono ?_;rintro e w' ⟨rfl,b⟩;exact⟨_,rfl,by simp only[bH];exact⟨[_,_],rfl,by simp[a8,bH]⟩,dA.below b⟩
 | [],a=>simp[a8]at a
 | _::_::_,a=>simp[a8]at a
def lZ(c:nb a k)(d:nb b k)(h:k<=8589934592):PF 133 [.big a,.big b] (.big (a+b)):=Sq fun va vb B w e f g=>PY va vb a b B w e f g (c.nl om) (d.nl om)
def mD(c:nb a k)(d:nb b k)(h:k<=8589934592):PF 192 [.big a,.big b] (.big (a-b)):=Sq fun va vb B w e f g=>PD va vb a b B w e f g (c.nl om) (d.nl om)
def gW(c:nb a k)(d:nb b k)(h:k<=8589934592):PF 83 [.big a,.big b] (.big (a*b)):=Sq fun va vb B w e f g=>PN va vb a b B w e f g (c.nl om) (d.nl om)
def sX(b:nb a k)(e:k<=8589934592):PF 193 [.big a] (.big (-a)):=pf1 fun va B w c d=>PM va a B w c d (b.nl om)
def rZ(b:nb a k)(e:k<=8589934592):PF 157 [.big a] (.big a):=pf1 fun va B w c d=>BG va a B w c d (b.nl om)
def ka(b:nb a k)(e:k<=8589934592):PF 191 [.big a] (.int .i64 a.sign):=pf1i fun va B w c d=>AP va a B w c d (b.nl om)
def rt(c:nb a k)(d:nb b k)(h:k<=8589934592):PF 159 [.big a,.big b] (.int .i64 (jU a b)):=pf2i fun va vb B w e f g=>PV va vb a b B w e f g (c.nl om) (d.nl om)
def gR(b:-9223372036854775808<=a)(c:a<=9223372036854775807):PF 81 [.int .i64 a] (.big a):=IU fun w=>KT a w b c
def rl(h:iw a):PF 84 [.big a] (.tup [.int .i64 a,.bool true]):=IW fun va B w b c=>K7 va a B w b c h
def Hf(f:nb a k)(d:nb b 32)(n:k<=1000000)(g:b≠0):PF 82 [.big a,.big b] (.tup [.big (a/b),.big (a%b),.bool true]):=by
 intro w vs _ c
 match vs,c with
 | [va,vb],c =>
  simp only[a8,bH]at c;refine(It va vb a b w.heap.size w (ag _) c.1 c.2.1 (f.nl om) (d.nl om) g (.inr (.inr (d.nl om)))).mono ?_;rintro e w' ⟨h,i,rfl,j,l,m⟩;exact⟨_,rfl,by simp only[bH];exact⟨[h,i,.bool true],rfl,by simp only[a8,bH];exact⟨j,l,trivial,trivial⟩⟩,dA.below m⟩
 | [],c=>simp[a8]at c
 | [_],c=>simp[a8]at c
 | _::_::_::_,c=>simp[a8]at c
def Cc(h:iw a):PF 72 [.big a] (.tup [.int .i64 a,.bool true]):=IW fun va B w b c=>Ef va a B w b c h
def tU(c:nb a k)(d:nb b k)(h:k<=8589934592):PF 87 [.big a,.big b] (.big (a+b)):=Sq fun va vb B w e f g=>CR va vb a b B w e f g (c.nl om) (d.nl om)
def tQ(c:nb a k)(d:nb b k)(h:k<=8589934592):PF 66 [.big a,.big b] (.big (a-b)):=Sq fun va vb B w e f g=>KR va vb a b B w e f g (c.nl om) (d.nl om)
def ji(c:nb a k)(d:nb b k)(h:k<=8589934592):PF 67 [.big a,.big b] (.big (a*b)):=Sq fun va vb B w e f g=>KW va vb a b B w e f g (c.nl om) (d.nl om)
def yy(b:nb a k)(e:k<=8589934592):PF 68 [.big a] (.big (-a)):=pf1 fun va B w c d=>CF va a B w c d (b.nl om)
def tV(b:nb a k)(e:k<=8589934592):PF 45 [.big a] (.big a.natAbs):=pf1 fun va B w c d=>Lg va a B w c d (b.nl om)
def EX(b:nb a k)(e:k<=8589934592):PF 126 [.big a] (.big a):=pf1 fun va B w c d=>wN va a B w c d (b.nl om)
def jP(b:nb a k)(e:k<=8589934592):PF 64 [.big a] (.int .i64 a.sign):=pf1i fun va B w c d=>tq va a B w c d (b.nl om)
def mW(c:nb a k)(d:nb b k)(h:k<=8589934592):PF 30 [.big a,.big b] (.int .i64 (jU a b)):=pf2i fun va vb B w e f g=>Ld va vb a b B w e f g (c.nl om) (d.nl om)
def gE(b:-9223372036854775808<=a)(c:a<=9223372036854775807):PF 29 [.int .i64 a] (.big a):=IU fun w=>FX a w b c

def Nl(va:Value)(za:Int)(B:Nat)(w:World)(hB:B<=w.heap.size)(ha:ew w B va za)(sa:nl za.natAbs<=536870912)(hz:¬iw za) :
  Calls ak 84 #[va] w fun e w'=>e=.returned (.tuple #[.int .i64 0,.bool false])/\Below w.heap.size w w':=by
 obtain⟨s1,A,n,c,xs,rfl,hnc,hx,tx,rfl⟩:=ha;rw[fG,<-aD hx tx]at sa;have hb0:=(bG w.heap.size w).alloc (ag _) (Obj.cells #[Value.bool s1,Value.slice A n c] 50);have hv2:n<=2->bC xs<18446744073709551616:=fun h=>by
  rw[aD hx tx]at h;have:=jQ.1 h;omega
 have HU:=ab (hx.below hb0 hB);have HX:=ab hx;clear hx;have HTX:=ab tx;clear tx;have HB:=ab hb0;clear hb0;unfold iw at hz;by_cases hn:n<=2
 .have hv3:=hv2 hn;have hn2:¬((2:Int)<(n:Int)):=om
  have hn3:decide ((2:Int)<(n:Int))=false:=by simpa using hn2
  cases s1
  .have hv:(sg false (bC xs))=(bC xs:Int):=by simp[sg]
   rw[hv]at hz;clear hv;generalize hvv:bC xs=v at hz hv3 hv2;have HV:=ab hvv;clear hvv;have hl:¬(v:Int)<9223372036854775808:=om
   have hl2:decide ((v:Int)<9223372036854775808)=false:=by simpa using hl
   clear hv2 hz hv3
   go_enter Ju,Eu
   go_wp2_with fail
   refine(fP A n c B xs _ hnc om HU.out HTX.out).mono ?_;rintro e w' ⟨rfl,rfl⟩
   go_wp2_with fail
   refine(mj A n c B xs _ hn HU.out).mono ?_;rintro e w' ⟨rfl,rfl⟩;rw[HV.out];go_wp2;go_ret2;exact⟨rfl,HB.out⟩
  .have hv:(sg true (bC xs))=-(bC xs:Int):=by simp[sg]
   rw[hv]at hz;clear hv;generalize hvv:bC xs=v at hz hv3 hv2;have HV:=ab hvv;clear hvv;have hl:¬(v:Int)<=9223372036854775808:=om
   have hl2:decide ((v:Int)<=9223372036854775808)=false:=by simpa using hl
   clear hv2 hz hv3
   go_enter Ju,Eu
   go_wp2_with fail
   refine(fP A n c B xs _ hnc om HU.out HTX.out).mono ?_;rintro e w' ⟨rfl,rfl⟩
   go_wp2_with fail
   refine(mj A n c B xs _ hn HU.out).mono ?_;rintro e w' ⟨rfl,rfl⟩;rw[HV.out];go_wp2;go_ret2;exact⟨rfl,HB.out⟩
 .have hn2:(2:Int)<(n:Int):=om
  have hn3:decide ((2:Int)<(n:Int))=true:=by simpa using hn2
  clear hv2 hz
  go_enter Ju,Eu
  go_wp2_with fail
  refine(fP A n c B xs _ hnc om HU.out HTX.out).mono ?_;rintro e w' ⟨rfl,rfl⟩;go_wp2;go_ret2;exact⟨rfl,HB.out⟩
def Mm(c:nb a k)(f:k<=8589934592)(h:¬iw a):PF 84 [.big a] (.tup [.int .i64 0,.bool false]):=by
 intro w vs _ b
 match vs,b with
 | [va],b =>
  simp only[a8,bH]at b;refine(Nl va a w.heap.size w (ag _) b.1 (c.nl om) h).mono ?_;rintro e w' ⟨rfl,d⟩;exact⟨_,rfl,by simp only[bH];exact⟨[_,_],rfl,by simp[a8,bH]⟩,dA.below d⟩
 | [],b=>simp[a8]at b
 | _::_::_,b=>simp[a8]at b

def Ha(a p:Nat)(w:World)(ha:a<1000000)(hp:p<1000000):Calls ak 124 #[.int .i64 a,.int .i64 p] w fun e w'=>e=.returned (.int .i64 (bz a p).1)/\dT w w':=by
 go_enter func124,ntmps124
 go_wp2
 go_loopw [0,1] (fun iv jv wr=>∃x y:Nat,iv=.int .i64 x/\jv=.int .i64 y/\x<1000000/\y<1000000/\Hid (dT w wr)/\Hid ((bz x y).1=(bz a p).1)) (fun _ jv _=>(intOf jv).toNat)
 case atStart=>exact⟨a,p,rfl,rfl,ha,hp,ab (dT.refl w),ab rfl⟩
 case round =>
  obtain⟨x,y,rfl,rfl,hx,hy,HQ,HD⟩:=hrel;by_cases h0:y=0
  .subst h0;have hr:=ab (show((x:Nat):Int)=(bz a p).1 by have:=HD.out;rw[mY]at this;exact this)
   go_wp2;go_ret;exact⟨by rw[hr.out];rfl,HQ.out⟩
  .have hyz:((y:Nat):Int)≠0:=om
   have hlt:=ab (di x (gK h0));go_wp2
   go_quiet (fail)
   go_wp2;refine⟨⟨y,x%y,rfl,by rw[lK],hy,by have:=hlt.out;omega,ab (by repeat' (first|exact HQ.out|apply dT.more)),ab (by rw[<-HD.out,sd x h0])⟩,?_⟩
   have h2:=hlt.out;rw[<-lK];exact h2
def Ke(a p:Nat)(c:a<1000000)(d:p<1000000):PF 124 [.int .i64 a,.int .i64 p] (.int .i64 (bz a p).1):=by
 intro w vs _ b
 match vs,b with
 | [va,vb],b =>
  simp only[a8,bH]at b;obtain⟨rfl,rfl,_⟩:=b;refine(Ha a p w c d).mono ?_;rintro e w' ⟨rfl,f⟩;exact⟨_,rfl,by simp[bH],dA.below (f.below _)⟩
 | [],b=>simp[a8]at b
 | [_],b=>simp[a8]at b
 | _::_::_::_,b=>simp[a8]at b

def Cy(x y c:Nat)(a:c<=1)(w:World):(callFunc 252 #[.int .u64 x,.int .u64 y,.int .u64 c]).run ak w =
   .ok (.value (.tuple #[.int .u64 (((x:Int)+y+c)%18446744073709551616),.int .u64 (((x:Int)+y+c)/18446744073709551616)])) w:=by
 rw[Ta func252 kr kr kr (e:=add64Entry) kr,run_add64 x y c om om om om]
 rfl
def QL:Array Value->Sem Value:=fun args=>do
 let (x, y, b) <- Extern.MathBitsCarry.three "Sub64" args
 pure (Extern.MathBitsCarry.pair ((x+Extern.MathBitsCarry.m64-y-b)%Extern.MathBitsCarry.m64) (if x<y+b then 1 else 0))
def B4(x y b:Nat)(a:b<=1)(w:World):(callFunc 253 #[.int .u64 x,.int .u64 y,.int .u64 b]).run ak w =
   .ok (.value (.tuple #[.int .u64 (((x+18446744073709551616-y-b)%18446744073709551616:Nat):Int),.int .u64 ((if x<y+b then 1 else 0:Nat):Int)])) w:=by
 rw[Ta func253 kr kr kr (e:=QL) kr]
 have:b=0∨b=1:=om
 rcases this with rfl|rfl<;>rfl
def yX{v:Value}(h:bH w M (.agg [.int .u64 a,.int .u64 b]) v):v=.agg #[.int .u64 a,.int .u64 b]:=by
 simp only[bH]at h;obtain⟨vs,rfl,h⟩:=h
 match vs,h with
 | [x,y],h =>
  simp only[a8,bH]at h;obtain⟨rfl,rfl,_⟩:=h;simp[Value.cells]
 | [],h=>simp[a8]at h
 | [_],h=>simp[a8]at h
 | _::_::_::_,h=>simp[a8]at h
def NO(w:World)(M:Nat->Prop)(a b:Int):bH w M (.agg [.int .u64 a,.int .u64 b]) (.agg #[.int .u64 a,.int .u64 b]):=by
 simp only[bH];exact⟨[.int .u64 a,.int .u64 b],by simp[Value.cells],by simp[a8,bH]⟩

def GX(a:Nat)(b:a<18446744073709551616):bits .and .u64 (a:Int) 4294967295=((a%4294967296:Nat):Int):=by
 have h:=bits_and_u64_nat a 4294967295 b om;have e:a &&& 4294967295=a%4294967296:=Nat.and_two_pow_sub_one_eq_mod a 32;rw[e]at h;exact h
def div64(a:Nat):(a:Int)/4294967296=((a/4294967296:Nat):Int):=om
def Q9(a b:Nat):(a:Int)*(b:Int)=((a*b:Nat):Int):=(aX a b).symm
def RM(a b:Nat):(a:Int)+(b:Int)=((a+b:Nat):Int):=(eD a b).symm
def xh(a:Nat)(b:a<18446744073709551616):IntKind.u64.wrap (a:Int)=(a:Int):=by rw[cf];omega
def NN(a:Nat):IntKind.u64.wrap (a:Int)=((a%18446744073709551616:Nat):Int):=by rw[cf];omega
def J0(x y:Nat)(hx:x<18446744073709551616)(hy:y<18446744073709551616)(w:World):Calls ak 251 #[.int .u64 x,.int .u64 y] w fun e w'=>e=.returned (.tuple #[.int .u64 ((x*y/18446744073709551616:Nat):Int),.int .u64 ((x*y%18446744073709551616:Nat):Int)])/\w'=w:=by
 obtain⟨bd,bt,bw,hhi⟩:=Lib.mul64_hi x y hx hy;have ba:=Lib.half_mul_le (a:=x/4294967296) (b:=y/4294967296) om om;have bb:=Lib.half_mul_le (a:=x/4294967296) (b:=y%4294967296) om om;have bc:=Lib.half_mul_le (a:=x%4294967296) (b:=y/4294967296) om om;have ba':x/4294967296*(y/4294967296)<18446744073709551616:=om
 have bb':x/4294967296*(y%4294967296)<18446744073709551616:=om
 have bc':x%4294967296*(y/4294967296)<18446744073709551616:=om
 have bh1:x/4294967296*(y/4294967296)+(x/4294967296*(y%4294967296)+x%4294967296*(y%4294967296)/4294967296)/4294967296<18446744073709551616:=om
 have bh:x/4294967296*(y/4294967296)+(x/4294967296*(y%4294967296)+x%4294967296*(y%4294967296)/4294967296)/4294967296+((x/4294967296*(y%4294967296)+x%4294967296*(y%4294967296)/4294967296)%4294967296+x%4294967296*(y/4294967296))/4294967296<18446744073709551616:=om
 go_enter func251,ntmps251
 go_wp2;simp only[GX x hx,GX y hy,div64,Q9,RM,xh _ bd,xh _ bb',xh _ bt,GX _ bt,xh _ bc',xh _ bw,xh _ ba',xh _ bh1,xh _ bh,NN (x*y)];rw[hhi];go_ret2;exact⟨rfl,rfl⟩
def yz(W:Nat):∃W1 W0,W/18446744073709551616=W1/\W%18446744073709551616=W0/\W=18446744073709551616*W1+W0/\W0<18446744073709551616 :=
 ⟨_,_,rfl,rfl,(cV W 18446744073709551616).symm,di _ om⟩
def Lq(W x y:Nat)(hx:x<18446744073709551616)(hy:y<18446744073709551616)(hs:W+x*y<340282366920938463463374607431768211456)(w:World):Calls ak 215 #[.agg #[.int .u64 ((W/18446744073709551616:Nat):Int),.int .u64 ((W%18446744073709551616:Nat):Int)],.int .u64 x,.int .u64 y] w fun e w'=>e=.returned (.agg #[.int .u64 (((W+x*y)/18446744073709551616:Nat):Int),.int .u64 (((W+x*y)%18446744073709551616:Nat):Int)])/\Below w.heap.size w w':=by
 have hm:=J0 x y hx hy;generalize x*y=P at hm hs ⊢;obtain⟨W1,W0,a1,a2,a3,a4⟩:=yz W;obtain⟨P1,P0,b1,b2,b3,b4⟩:=yz P;obtain⟨C,hC⟩:∃C,C=(W0+P0)/18446744073709551616:=⟨_,rfl⟩;obtain⟨R0,hR0⟩:∃R,R=(W0+P0)%18446744073709551616:=⟨_,rfl⟩;have hR:=cV (W0+P0) 18446744073709551616;rw[<-hC,<-hR0]at hR;have hR0l:R0<18446744073709551616:=by rw[hR0];exact di _ om
 have e1:=Cy W0 P0 0 om;have q1:((W0:Int)+(P0:Int)+((0:Nat):Int))%18446744073709551616=(R0:Int):=by
  rw[hR0,lK,eD];simp
 have q2:((W0:Int)+(P0:Int)+((0:Nat):Int))/18446744073709551616=(C:Int):=by
  rw[hC,lL,eD];simp
 rw[q1,q2]at e1;clear q1 q2 hC hR0;have hC1:C<=1:=om
 have hsum:W+P=18446744073709551616*(W1+P1+C)+R0:=om
 have hlt:W1+P1+C<18446744073709551616:=om
 have r1:(W+P)/18446744073709551616=W1+P1+C:=by rw[hsum];omega
 have r0:(W+P)%18446744073709551616=R0:=by rw[hsum];omega
 rw[a1,a2,r1,r0];rw[b1,b2]at hm;have e2:=Cy W1 P1 C hC1;have q3:((W1:Int)+(P1:Int)+(C:Int))%18446744073709551616=((W1+P1+C:Nat):Int):=by
  rw[<-eD,<-eD];exact dz (cM _) om
 rw[q3]at e2;clear q3 hs hsum hlt r1 r0 hR a1 a2 a3 a4 b1 b2 b3 b4 hR0l hC1;generalize ((W1:Int)+(P1:Int)+(C:Int))/18446744073709551616=cc at e2;generalize W1+P1+C=R1 at *
 go_enter func215,ntmps215
 go_wp2_with fail
 refine(hm _).mono ?_;rintro e w' ⟨rfl,hw'⟩;rw[hw']
 go_wp2_with (first|simp only[show(0:Int)=((0:Nat):Int)from rfl,e1]|simp only[e2])
 refine cO (v:=.agg #[.int .u64 (R1:Int),.int .u64 (R0:Int)]) (by simp[results,results215,go_sem]) rfl ⟨rfl,((bG _ w).alloc (ag _) _).alloc sm _⟩
def IG(a:x<18446744073709551616)(b:y<18446744073709551616)(d:c<=1):(x+18446744073709551616-y-c)%18446744073709551616=if x<y+c then x+18446744073709551616-y-c else x-y-c:=by
 split
 .exact dR om
 .rw[(om:x+18446744073709551616-y-c=(x-y-c)+18446744073709551616),Nat.add_mod_right]
  exact dR om
def Gr(W V:Nat)(hW:W<340282366920938463463374607431768211456)(hV:V<340282366920938463463374607431768211456)(w:World):Calls ak 216 #[.agg #[.int .u64 ((W/18446744073709551616:Nat):Int),.int .u64 ((W%18446744073709551616:Nat):Int)],.agg #[.int .u64 ((V/18446744073709551616:Nat):Int),.int .u64 ((V%18446744073709551616:Nat):Int)]] w fun e w'=>e=.returned (.tuple #[.int .i64 (if V<=W/\W-V<=4611686018427387904 then((W-V:Nat):Int)else 0),.bool (decide (V<=W/\W-V<=4611686018427387904))])/\Below w.heap.size w w':=by
 obtain⟨W1,W0,a1,a2,a3,a4⟩:=yz W;obtain⟨V1,V0,b1,b2,b3,b4⟩:=yz V;rw[a1,a2,b1,b2];have e1:=B4 W0 V0 0 om;rw[IG a4 b4 om]at e1;obtain⟨c,hc,hc1⟩:∃c,c=(if W0<V0+0 then 1 else 0:Nat)/\c<=1:=⟨_,rfl,by split<;>omega⟩
 obtain⟨lo,hlo⟩:∃z,z=(if W0<V0+0 then W0+18446744073709551616-V0-0 else W0-V0-0:Nat):=⟨_,rfl⟩
 rw[<-hc,<-hlo]at e1;have e2:=B4 W1 V1 c hc1;rw[IG om om hc1]at e2;obtain⟨br,hbr⟩:∃z,z=(if W1<V1+c then 1 else 0:Nat):=⟨_,rfl⟩
 obtain⟨hi,hhi⟩:∃z,z=(if W1<V1+c then W1+18446744073709551616-V1-c else W1-V1-c:Nat):=⟨_,rfl⟩
 rw[<-hbr,<-hhi]at e2;have q':(br=0/\hi=0/\lo<=4611686018427387904/\V<=W/\W-V<=4611686018427387904/\lo=W-V)∨(¬(V<=W/\W-V<=4611686018427387904)/\(br=1∨(br=0/\hi≠0/\0<hi)∨(br=0/\hi=0/\4611686018427387904<lo))):=by
  by_cases c0:W0<V0+0
  .rw[aj c0]at hc hlo;subst hc;by_cases c1:W1<V1+1
   .rw[aj c1]at hbr hhi;right;omega
   .rw[ah c1]at hbr hhi;by_cases c2:hi=0
    .omega
    .right;omega
  .rw[ah c0]at hc hlo;subst hc;by_cases c1:W1<V1+0
   .rw[aj c1]at hbr hhi;right;omega
   .rw[ah c1]at hbr hhi;by_cases c2:hi=0
    .omega
    .right;omega
 have hlol:lo<18446744073709551616:=by rw[hlo];split<;>omega
 clear hc hlo hbr hhi hc1 a1 a2 b1 b2 a3 b3 a4 b4;generalize hR:(if V<=W/\W-V<=4611686018427387904 then((W-V:Nat):Int)else 0)=R
 generalize hB:decide (V<=W/\W-V<=4611686018427387904)=B;rcases q' with⟨rfl,rfl,h3,h4,h5,rfl⟩|⟨h4,h5⟩
 .rw[aj ⟨h4,h5⟩]at hR;rw[np (show V<=W/\W-V<=4611686018427387904 from⟨h4,h5⟩)]at hB;subst hR;subst hB;clear hW hV h4 h5;generalize W-V=lo at *;have h1:¬(4611686018427387904:Int)<lo:=om
  have w1:IntKind.i64.wrap (lo:Int)=lo:=by rw[pL];omega
  go_enter Qq,M8
  go_wp2_with (first|simp only[show(0:Int)=((0:Nat):Int)from rfl,e1]|simp only[e2])
  go_ret2;exact⟨rfl,((bG _ w).alloc (ag _) _).alloc sm _⟩
 .rw[ah h4]at hR;rw[pO h4]at hB;subst hR;subst hB;clear hW hV h4;rcases h5 with rfl|⟨rfl,h6,h7⟩|⟨rfl,rfl,h6⟩
  .go_enter Qq,M8
   go_wp2_with (first|simp only[show(0:Int)=((0:Nat):Int)from rfl,e1]|simp only[e2])
   go_ret2;exact⟨rfl,((bG _ w).alloc (ag _) _).alloc sm _⟩
  .have h8:((hi:Nat):Int)≠0:=om
   go_enter Qq,M8
   go_wp2_with (first|simp only[show(0:Int)=((0:Nat):Int)from rfl,e1]|simp only[e2])
   go_ret2;exact⟨rfl,((bG _ w).alloc (ag _) _).alloc sm _⟩
  .have h1:(4611686018427387904:Int)<lo:=om
   go_enter Qq,M8
   go_wp2_with (first|simp only[show(0:Int)=((0:Nat):Int)from rfl,e1]|simp only[e2])
   go_ret2;exact⟨rfl,((bG _ w).alloc (ag _) _).alloc sm _⟩
def PZ(W:Nat):AV:=.agg [.int .u64 ((W/18446744073709551616:Nat):Int),.int .u64 ((W%18446744073709551616:Nat):Int)]
def yp(h:x<18446744073709551616)(i:y<18446744073709551616)(j:W+x*y<340282366920938463463374607431768211456):PF 215 [PZ W,.int .u64 x,.int .u64 y] (PZ (W+x*y)):=by
 intro w vs _ d
 match vs,d with
 | [a,b,c],d =>
  simp only[a8]at d;obtain⟨k,f,g,_⟩:=d;obtain rfl:=yX k;simp only[bH]at f g;subst f;subst g;refine(Lq W x y h i j w).mono ?_;rintro e w' ⟨rfl,l⟩;exact⟨_,rfl,NO _ _ _ _,dA.below l⟩
 | [],d=>simp[a8]at d
 | [_],d=>simp[a8]at d
 | [_,_],d=>simp[a8]at d
 | _::_::_::_::_,d=>simp[a8]at d
def BW(d:W<340282366920938463463374607431768211456)(f:V<340282366920938463463374607431768211456):PF 216 [PZ W,PZ V] (.tup [.int .i64 (if V<=W/\W-V<=4611686018427387904 then((W-V:Nat):Int)else 0),.bool (decide (V<=W/\W-V<=4611686018427387904))]):=by
 intro w vs _ b
 match vs,b with
 | [a,c],b =>
  simp only[a8]at b;obtain⟨g,h,_⟩:=b;obtain rfl:=yX g;obtain rfl:=yX h;refine(Gr W V d f w).mono ?_;rintro e w' ⟨rfl,i⟩;refine⟨_,rfl,?_,dA.below i⟩;generalize (if V<=W/\W-V<=4611686018427387904 then((W-V:Nat):Int)else 0)=z
  generalize decide (V<=W/\W-V<=4611686018427387904)=β;simp only[bH];exact⟨[.int .i64 z,.bool β],sm,by simp[a8,bH]⟩
 | [],b=>simp[a8]at b
 | [_],b=>simp[a8]at b
 | _::_::_::_,b=>simp[a8]at b

def fM(d:nb a k)(f:nb b k)(n:k<=8000000000)(g:b≠0):PF 82 [.big a,.big b] (.tup [.big (a/b),.big (a%b),.bool true]):=by
 intro w vs _ c
 match vs,c with
 | [va,vb],c =>
  simp only[a8,bH]at c;refine(Iu va vb a b w.heap.size w (ag _) c.1 c.2.1 (d.nl om) (f.nl om) g).mono ?_;rintro e w' ⟨h,i,rfl,j,l,m⟩;exact⟨_,rfl,by simp only[bH];exact⟨[h,i,.bool true],rfl,by simp only[a8,bH];exact⟨j,l,trivial,trivial⟩⟩,dA.below m⟩
 | [],c=>simp[a8]at c
 | [_],c=>simp[a8]at c
 | _::_::_::_,c=>simp[a8]at c
def Qz:∃k:Nat,271<=k/\k<=300:=⟨300,om,om⟩
noncomputable def KB:Nat:=fN Qz
def mO:271<=KB/\KB<=300:=dj Qz
noncomputable def PB:Int:=2^KB
def Ig:((2^KB:Nat):Int)=PB:=by unfold PB;rw[Jz];rfl
def Gi(h:-PB<z/\z<PB):nb z KB:=by
 have:=Ig;unfold nb;generalize (2:Nat)^KB=x at *;omega
def nb.P(h:nb z KB):-PB<z/\z<PB:=by
 have:=Ig;unfold nb at h;generalize (2:Nat)^KB=x at *;omega
def Qw(h:0<=z/\z<PB):z.toNat<2^KB:=by
 have:=Ig;generalize (2:Nat)^KB=x at *;omega

end Go.Proofs.YtdobfmlmenaajaaGreatDoor
