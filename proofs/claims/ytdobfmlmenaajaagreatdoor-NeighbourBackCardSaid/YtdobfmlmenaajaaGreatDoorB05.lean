/-
  Lemmas for NeighbourBack.
-/
import Derived.Test.YtdobfmlmenaajaaGreatDoorB04
import Derived.Laws.Externs
import Derived.Laws.Bits64b
import Derived.Lib.Mul64
namespace Go.Proofs.YtdobfmlmenaajaaGreatDoor
open Go.RowKit Tryz
open _root_.Classical renaming choose→fP
open _root_.List renaming replicate→cp,getD→df
open Tryz renaming prog→ak
open Value renaming int→dx
set_option maxHeartbeats 6400000
set_option maxRecDepth 4096
set_option linter.all false
variable{D a b d xc xj z za zb:Int}{l ps qq qs rs vs ys:List Nat}{B B1 K K' N V W X Y bor c car g i j k m n s x y:Nat}{f q q' r r' u v xs:Nat->Nat}{M:Nat->Prop}{p:PL}{w w0 w1 w2 wr:World}{A A0 A1 H Q R:az}
abbrev lf(l:List Nat):Nat->Nat:=fun i=>l.getD i 0
def LD{ps:Nat->Nat}(h:vF i ps+car*4294967296^i=vF i xs*2^s):vF i ps+(car+xs i*2^s)%4294967296*4294967296^i+(car+xs i*2^s)/4294967296*4294967296^(i+1)=vF (i+1) xs*2^s:=by
 have e:=Nat.mod_add_div (car+xs i*2^s) 4294967296;simp only[vF,bZ];rw[dK,<-h];generalize (car+xs i*2^s)%4294967296=a at *;generalize (car+xs i*2^s)/4294967296=b at *;generalize 4294967296^i=p at *;have c:(a+4294967296*b)*p=(car+xs i*2^s)*p:=by rw[e]
 rw[dK,dK]at c;have d:b*(p*4294967296)=4294967296*b*p:=by rw[aA p,<-bH,aA b]
 have f:xs i*p*2^s=xs i*2^s*p:=by rw[bH,aA p,<-bH]
 omega
def CV:vF i (lf (ps.set i x))=vF i (lf ps):=jP fun j a=>fU om
def rn(h:i<ps.length):lf (ps.set i x) i=x:=by simp[lf,df,h]
def Q5{a:Nat}(c:a<2^s):a ||| x*2^s=a+x*2^s:=by
 have h:=kE (i:=s) (b:=a) c x;rw[tI]at h;rw[SJ,<-h,jM]
def LA.start(w:World)(n:Nat):LA w.heap.size w (w.alloc (.cells (dI [] n) 136)) w.heap.size n (cp n 0):=by
 obtain⟨a,b⟩:=iD.start w n;refine⟨a,ag _,sm,fun x c=>by rw[(SX.1 c).2];omega,_,b,fun j d=>?_⟩
 rw[mh _ 0 j (by simp;omega)];simp
def sJ(A:Option Addr)(n c s L:Nat)(xs:List Nat)(w:World)(hn:n<=268435456)(hs:s<32)(hL:L<=w.heap.size)(hx:cE w L A n xs) :
  Calls ak 199 #[.slice A n c,.int .i64 s] w fun e w'=>∃c' ps,e=.returned (.slice (some ⟨w.heap.size,0,none⟩) (n+1:Nat) c')/\n+1<=c'/\LA w.heap.size w w' w.heap.size (n+1) ps/\vF (n+1) (lf ps)=vF n (lf xs)*2^s:=by
 have hmk:=Dt (n+1) om;rw[show((n+1:Nat):Int)=(n:Int)+1 by omega]at hmk
 have HX:=ab hx;clear hx
 go_enter func199,ntmps199
 go_wp2;clear hmk;have hs0:¬(s:Int)<0:=om
 have hmin:min s 64=s:=om
 go_loopw [6,15] (fun cv iv wr=>∃(i car:Nat) (ps:List Nat),i<=n/\iv=.int .i64 i/\cv=.int .u64 car/\car<2^s/\Hid (LA w.heap.size w wr w.heap.size (n+1) ps)/\Hid (vF i (lf ps)+car*4294967296^i=vF i (lf xs)*2^s)) (fun _ iv _=>n-(intOf iv).toNat)
 case atStart=>exact⟨0,0,cp (n+1) 0,om,rfl,rfl,jd s,ab (LA.start w (n+1)),ab (by simp[vF])⟩
 case round =>
  obtain⟨i,car,ps,hi,rfl,rfl,hcar,HF,HS⟩:=hrel;by_cases hin:i<n
  .obtain⟨ad,x,rfl,hab,hxx,hx4,hcx⟩:=(HX.out.below HF.out.1 hL).at_ (k:=i) om;have HXX:=ab hxx;clear hxx;have hin':(i:Int)<n:=om
   have hin2:(i:Int)<(n:Int)+1:=om
   have hi0:(0:Int)<=i:=om
   obtain⟨hcp,hfp⟩:=HF.out.at_ (k:=i) om;generalize ps.getD i 0=pp at hcp;have hz:x*2^s<=4294967295*2^s/\(2:Nat)^s<=2147483648:=⟨aq _ om,cu om (om:s<=31)⟩
   have HO:Hid (bits .or .u64 (car:Int) (IntKind.u64.wrap ((x:Int)*2^s))=((car+x*2^s:Nat):Int)):=ab (by
    have e1:IntKind.u64.wrap ((x:Int)*2^s)=((x*2^s:Nat):Int):=by
     rw[show((x:Int)*2^s)=((x*2^s:Nat):Int) by rw[aV,JC];rfl,ci]
     generalize 2^s=t at *;generalize x*t=z at *;omega
    rw[e1,yo _ _ (by generalize 2^s=t at *;omega) (by generalize 2^s=t at *;generalize x*t=z at *;omega),Q5 hcar])
   have hst:=LD HS.out;rw[show lf xs i=x from HXX.out]at hst;have hc2:(car+x*2^s)/4294967296<2^s:=by
    rw[ou om];generalize 2^s=t at *;generalize x*t=z at *;omega
   have HST:=ab hst;clear hst;have HZ:=ab hz;clear hz;go_wp2
   go_roundw
   case rel =>
    rw[HO.out];have hput:=HF.out.put (k:=i) (x:=(car+x*2^s)%4294967296) om om;refine⟨i+1,(car+x*2^s)/4294967296,_,om,by go_num,by go_num,hc2,ab (by simpa using hput),ab ?_⟩
    rw[<-HST.out];simp only[vF];rw[CV,rn (by rw[HF.out.2.2.1];omega)]
   case measure=>simp[intOf];omega
  .obtain rfl:i=n:=om
   obtain⟨hcp,hfp⟩:=HF.out.at_ (k:=i) om;generalize ps.getD i 0=pp at hcp;have hc4:(2:Nat)^s<=2147483648:=cu om (om:s<=31)
   have hcar4:car<4294967296:=om
   have HC4:=ab hc4;clear hc4;have hin2:(i:Int)<(i:Int)+1:=om
   have hput:=HF.out.put (k:=i) (x:=car) om hcar4;have HP:=ab hput;clear hput;go_wp2;go_ret;refine⟨i+1,by go_num,ag _,ps.set i car,by simpa using HP.out,?_⟩
   rw[<-HS.out];simp only[vF];rw[CV,rn (by rw[HF.out.2.2.1];omega)]
def LB(c:x<4294967296)(f:s<32):2^s*((x+y*4294967296)/2^s%4294967296)+x%2^s=x+(y%2^s)*4294967296:=by
 have a:2^s*2^(32-s)=4294967296:=by rw[<-fD,(om:s+(32-s)=32)]
 have b:=jd s;have g:=jd (32-s);generalize 2^s=P at *;generalize 2^(32-s)=Q at *;have d:(x+y*4294967296)/P=x/P+y*Q:=by
  rw[<-a,show y*(P*Q)=P*(y*Q) by rw[<-bH,aA y,bH],SL _ _ b]
 have e:y*Q=4294967296*(y/P)+y%P*Q:=by
  have h:=cW y P;rw[<-a];have:(P*(y/P)+y%P)*Q=y*Q:=by rw[h]
  rw[<-this,dK];congr 1;rw[bH,aA (y/P),<-bH]
 have i:x/P<Q:=by rw[ou b,aA,a];exact c
 have j:y%P*Q+Q<=4294967296:=by
  have h:=aq Q (di y b);rw[cj,a]at h;exact h
 rw[d,e,(om:x/P+(4294967296*(y/P)+y%P*Q)=(x/P+y%P*Q)+4294967296*(y/P)),Nk,dT om,bV]
 have k:=cW x P;have l:P*(y%P*Q)=y%P*4294967296:=by rw[<-a,<-bH,<-bH,aA P]
 omega
def EO{y x:Nat->Nat}(h:2^s*vF i y+x 0%2^s=vF i x+x i%2^s*4294967296^i)(a:x i<4294967296)(b:s<32)(c:y i=(x i+x (i+1)*4294967296)/2^s%4294967296):2^s*vF (i+1) y+x 0%2^s=vF (i+1) x+x (i+1)%2^s*4294967296^(i+1):=by
 have e:=LB (x:=x i) (y:=x (i+1)) a b;rw[<-c]at e;simp only[vF,bZ];generalize 4294967296^i=p at *;have d:(2^s*y i+x i%2^s)*p=(x i+x (i+1)%2^s*4294967296)*p:=by rw[e]
 rw[dK,dK]at d;rw[bV,<-bH (2^s) (y i),show x (i+1)%2^s*(p*4294967296)=x (i+1)%2^s*4294967296*p by rw[bH,aA p]]
 omega
def GY(h:l.length<=i):lf l i=0:=by simp[lf,df,dX h]
def shrI(z s:Nat):(z:Int)/2^s%4294967296=((z/2^s%4294967296:Nat):Int):=by
 rw[lM,lN,JC];rfl
def uq(h:mX l)(i:Nat):lf l i<4294967296:=h.getD i
def LC{y x:Nat->Nat}(h:2^s*vF n y+x 0%2^s=vF n x+x n%2^s*4294967296^n)(b:x n=0):vF n y=vF n x/2^s:=by
 have a:=jd s;have c:=di (x 0) a;rw[b,Nat.zero_mod,nJ,cB]at h;rw[<-h,jH a,ee c];rfl
def zH(B:Nat)(w0 w:World)(g n c s:Nat)(xs:List Nat)(hn:n<=268435456)(hs:s<32)(h:LA B w0 w g n xs)(P:World->Prop)(hPc:∀(wr:World) (q:Nat) (u:Value),P wr->P (wr.setCell ⟨g,q,none⟩ u))(hP:P w) :
  Calls ak 201 #[.slice (some ⟨g,0,none⟩) n c,.int .i64 s] w fun e w'=>∃ps,e=.returned (.tuple #[])/\LA B w0 w' g n ps/\P w'/\vF n (lf ps)=vF n (lf xs)/2^s:=by
 have hxl:=h.2.2.1;have HL:=ab h.2.2.2.1;have HA:=ab h;clear h;have HPC:=ab hPc;clear hPc;have HP0:=ab hP;clear hP;have hs0:¬(s:Int)<0:=om
 have hmin:min s 64=s:=om
 go_enter func201,ntmps201
 go_wp2
 go_loopw [8] (fun iv wr=>∃(i:Nat) (ps:List Nat),i<=n/\iv=.int .i64 i/\Hid (LA B w0 wr g n ps)/\Hid (P wr)/\Hid (∀k,i<=k->lf ps k=lf xs k)/\Hid (2^s*vF i (lf ps)+lf xs 0%2^s=vF i (lf xs)+lf xs i%2^s*4294967296^i)) (fun iv _=>n-(intOf iv).toNat)
 case atStart=>exact⟨0,xs,om,rfl,HA,HP0,ab fun _ _=>rfl,ab (by simp[vF])⟩
 case round =>
  clear HA;obtain⟨i,ps,hi,rfl,HF,HPP,HK,HS⟩:=hrel;by_cases hin:i<n
  .obtain⟨hcp,hfp⟩:=HF.out.at_ (k:=i) hin;rw[show ps.getD i 0=lf xs i from HK.out i (ag _)]at hcp;have hx4:=uq HL.out i;have hin':(i:Int)<n:=om
   have hi0:(0:Int)<=i:=om
   by_cases hi1:i+1<n
   .obtain⟨hcq,hfq⟩:=HF.out.at_ (k:=i+1) hi1;rw[show ps.getD (i+1) 0=lf xs (i+1)from HK.out (i+1) om]at hcq;have hy4:=uq HL.out (i+1);have hsp:=EO (y:=fun k=>if k=i then(lf xs i+lf xs (i+1)*4294967296)/2^s%4294967296 else lf ps k) (x:=lf xs) (i:=i) (s:=s) (by rw[<-HS.out];congr 2;exact jP fun j hj=>ah om) hx4 hs (aj rfl)
    generalize hxx:lf xs i=x at hcp hx4 hsp;generalize hyy:lf xs (i+1)=y at hcq hy4 hsp;have HO:Hid (bits .or .u64 (x:Int) ((y:Int)*4294967296)/2^s%4294967296=(((x+y*4294967296)/2^s%4294967296:Nat):Int)):=ab (by
     rw[show(y:Int)*4294967296=((y*4294967296:Nat):Int) by omega,yo _ _ om om,GO hx4,shrI])
    have HSP:=ab hsp;clear hsp;have hi1':(i:Int)+1<n:=om
    go_wp2
    go_roundw
    case rel =>
     rw[HO.out];have hput:=HF.out.put (k:=i) (x:=(x+y*4294967296)/2^s%4294967296) om om;refine⟨i+1,_,om,by go_num,ab hput,ab (HPC.out _ _ _ HPP.out),ab fun k hk=>?_,ab ?_⟩
     .rw[lf,fU om];exact HK.out k om
     .rw[hyy,<-HSP.out];congr 2;simp only[vF,aH];rw[CV,rn (by rw[HF.out.2.2.1];omega)]
      congr 1;exact jP fun j hj=>(ah om).symm
    case measure=>simp[intOf];omega
   .have hy0:lf xs (i+1)=0:=GY om;have hsp:=EO (y:=fun k=>if k=i then lf xs i/2^s%4294967296 else lf ps k) (x:=lf xs) (i:=i) (s:=s) (by rw[<-HS.out];congr 2;exact jP fun j hj=>ah om) hx4 hs (by rw[aj rfl,hy0,nJ,cB])
    generalize hxx:lf xs i=x at hcp hx4 hsp;have HO:Hid ((x:Int)/2^s%4294967296=((x/2^s%4294967296:Nat):Int)):=ab (shrI x s);have HSP:=ab hsp;clear hsp;have hi1':¬(i:Int)+1<n:=om
    go_wp2
    go_roundw
    case rel =>
     rw[HO.out];have hput:=HF.out.put (k:=i) (x:=x/2^s%4294967296) om om;refine⟨i+1,_,om,by go_num,ab hput,ab (HPC.out _ _ _ HPP.out),ab fun k hk=>?_,ab ?_⟩
     .rw[lf,fU om];exact HK.out k om
     .rw[<-HSP.out];congr 2;simp only[vF,aH];rw[CV,rn (by rw[HF.out.2.2.1];omega)]
      congr 1;exact jP fun j hj=>(ah om).symm
    case measure=>simp[intOf];omega
  .obtain rfl:i=n:=om
   have HE:=ab (LC HS.out (GY om));go_wp2;exact bodyPost_end (v:=.tuple #[]) (by simp[results,results201]) rfl ⟨ps,rfl,HF.out,HPP.out,HE.out⟩

def Ri(h:vF i q+g*vF i v=vF i u+(bor+car)*4294967296^i)(k:bor<=1)(l:u i<4294967296)
  (d:∀m,m<i->q' m=q m) (e:q' i=(u i+18446744073709551616-(car+g*v i)%4294967296-bor)%4294967296) :
  (u i+18446744073709551616-(car+g*v i)%4294967296-bor)%18446744073709551616/9223372036854775808<=1/\q' i<4294967296 /\
  vF (i+1) q'+g*vF (i+1) v=vF (i+1) u+((u i+18446744073709551616-(car+g*v i)%4294967296-bor)%18446744073709551616/9223372036854775808+(car+g*v i)/4294967296)*4294967296^(i+1):=by
 have n:=cW (car+g*v i) 4294967296;have o:=di (car+g*v i) (om:0<4294967296)
 generalize hlo:(car+g*v i)%4294967296=lo at *;generalize (car+g*v i)/4294967296=a at *;have b:(u i+18446744073709551616-lo-bor)%18446744073709551616/9223372036854775808<=1:=om
 have hlimb:q' i+lo+bor=u i+(u i+18446744073709551616-lo-bor)%18446744073709551616/9223372036854775808*4294967296:=by
  rw[e];rcases aB (u i) (lo+bor)with f|f<;>omega
 generalize (u i+18446744073709551616-lo-bor)%18446744073709551616/9223372036854775808=c at *;refine⟨b,om,?_⟩
 simp only[vF,bZ];rw[jP d,bV,<-bH];generalize 4294967296^i=p at *;generalize g*v i=gv at *;have j:(q' i+gv)*p+(bor+car)*p=u i*p+(c+a)*(p*4294967296):=by
  rw[show(c+a)*(p*4294967296)=(c+a)*4294967296*p by rw[aA p,bH],<-dK,<-dK]
  congr 1;omega
 rw[dK]at j;omega
def Rl(h:vF i q+car*4294967296^i=vF i u+vF i v)
  (b:∀m,m<i->q' m=q m) (c:q' i=(car+(u i+v i))%4294967296) :
  vF (i+1) q'+(car+(u i+v i))/4294967296*4294967296^(i+1)=vF (i+1) u+vF (i+1) v:=by
 have d:=cW (car+(u i+v i)) 4294967296;rw[<-c]at d;generalize (car+(u i+v i))/4294967296=a at *;simp only[vF,bZ];rw[jP b];generalize 4294967296^i=p at *;have e:q' i*p+a*(p*4294967296)=u i*p+v i*p+car*p:=by
  rw[show a*(p*4294967296)=a*4294967296*p by rw[aA p,bH],<-dK,<-dK,<-dK]
  congr 1;omega
 omega
def Oy{b:Nat}{r:Nat}(c:KG k u v g r)(h:vF (k+3) q+g*vF (k+2) v=vF (k+3) u+b*4294967296^(k+3))(d:b=0) :
  g=vF (k+3) u/vF (k+2) v/\vF (k+3) q=vF (k+3) u%vF (k+2) v:=by
 rw[d,nJ,cB (vF (k+3) u)]at h;have e:=c.le;rw[cj]at e;have f:vF (k+3) u=vF (k+2) v*g+vF (k+3) q:=by rw[<-h,aA];omega
 have a:vF (k+3) q<vF (k+2) v:=om
 rw[f];exact⟨by rw[jH om,ee a];rfl,by rw[kL,dT a]⟩
def Ox{b:Nat}{q2:Nat->Nat}{r:Nat}(e:KG k u v g r)(f:g*vF (k+2) v<vF (k+3) u+vF (k+2) v)(j:∀i,i<k+3->q i<4294967296)(d:∀i,i<k+3->q2 i<4294967296)(l:∀i,i<k+2->v i<4294967296)
  (h:vF (k+3) q+g*vF (k+2) v=vF (k+3) u+b*4294967296^(k+3)) (m:b=1) (t:vF (k+3) q2+c*4294967296^(k+3)=vF (k+3) q+vF (k+2) v) :
  0<g/\g-1=vF (k+3) u/vF (k+2) v/\vF (k+3) q2=vF (k+3) u%vF (k+2) v:=by
 rw[m,mP]at h;have w:=tM j;have x:=tM d;have y:=tM l;have z:(4294967296:Nat)^(k+2)<=4294967296^(k+3):=cu om om;have A:vF (k+3) u<g*vF (k+2) v:=om
 have n:=kn_q f e.le;rcases n with⟨B,_⟩|⟨_,o,p,s⟩
 .omega
 refine⟨o,p.symm,?_⟩;rw[s];have a:vF (k+3) q2+c*4294967296^(k+3)=(vF (k+3) u+vF (k+2) v-g*vF (k+2) v)+4294967296^(k+3):=om
 generalize 4294967296^(k+3)=M at *
 match c,a with
 | 0,a=>omega
 | 1,a=>omega
 | c+2,a =>
  have:(c+2)*M=c*M+2*M:=dK _ _ _;omega
def frm(f:Nat->Nat)(j:Nat):Nat->Nat:=fun t=>f (j+t)
def Mb{z:Nat}(a:∀t,t<j->r' t=r t)(b:∀t,j+n+1<=t->r' t=r t) :
  vF (j+(n+1)+z) r'+4294967296^j*vF (n+1) (frm r j)=vF (j+(n+1)+z) r+4294967296^j*vF (n+1) (frm r' j):=by
 rw[q9 (j+(n+1)) z r',q9 (j+(n+1)) z r,q9 j (n+1) r',q9 j (n+1) r,jP (n:=j) a,jP (n:=z) (f:=fun i=>r' (j+(n+1)+i)) (g:=fun i=>r (j+(n+1)+i)) fun i _=>b _ om];show _+4294967296^j*vF (n+1) (frm r' j)+_+_=_+4294967296^j*vF (n+1) (frm r j)+_+_;omega
def yF(h:∀i,i<n->f i=0):vF n f=0:=by
 induction n with
 | zero=>rfl
 | succ n ih=>simp only[vF];rw[ih fun i a=>h i om,h n om,nJ]
structure DN(n m X V J:Nat)(q r:Nat->Nat):Prop where
 q0:∀t,t<J->q t=0
 sum:vF (m+n+1) r+vF (m+1) q*V=X
 rest:vF n (frm r J)<V
 top:∀t,J+n<=t->r t=0
 J:J<=m+1
def DN.init(b:∀t,q t=0)(a:vF (m+n+1) r=X)(d:X<V*4294967296^(m+1))(e:∀t,m+n+1<=t->r t=0):DN n m X V (m+1) q r:=by
 refine⟨fun t _=>b t,by rw[yF (n:=m+1) fun i _=>b i];simpa using a,?_,fun t h=>e t om,om⟩
 rw[(om:m+n+1=m+1+n),q9]at a
 have c:4294967296^(m+1)*vF n (frm r (m+1))<=X:=by rw[<-a];exact Tq _ _
 rw[aA]at c;exact Li (dG c d)
def DN.under(h:DN n m X V (j+1) q r)(c:r j<4294967296):vF (n+1) (frm r j)<V*4294967296:=by
 rw[EA];have a:=h.rest;have b:vF n (fun i=>frm r j (i+1))=vF n (frm r (j+1)):=jP fun i _=>by simp only[frm];congr 1;omega
 rw[b];show r j+_<_;have d:4294967296*(vF n (frm r (j+1))+1)<=4294967296*V:=aO _ a;rw[aA V];omega
def DN.step(h:DN n m X V (j+1) q r)(F:V<=4294967296^n)(c:0<V)(l:∀t,t<j->r' t=r t)(k:∀t,j+n+1<=t->r' t=r t)(o:vF (n+1) (frm r' j)=vF (n+1) (frm r j)%V)
  (f:∀t,t≠j->q' t=q t) (g:q' j=vF (n+1) (frm r j)/V):DN n m X V j q' r':=by
 have G:=h.J;have s:=di (vF (n+1) (frm r j)) c;have b:r' (j+n)=0:=by
  have e:vF (n+1) (frm r' j)=vF n (frm r' j)+r' (j+n)*4294967296^n:=rfl;rcases bD (r' (j+n))with a|a
  .exact a
  .have:=aq (4294967296^n) (show 1<=r' (j+n)from a);omega
 refine⟨fun t v=>by rw[f t om];exact h.q0 t om,?_,?_,fun t v=>?_,om⟩
 .obtain⟨z,w⟩:∃z,m+n+1=j+(n+1)+z:=⟨m-j,om⟩
  have a:=Mb (z:=z) l k;rw[<-w]at a;have H:=h.sum;obtain⟨y,x⟩:∃y,m+1=j+1+y:=⟨m-j,om⟩
  have A:vF (m+1) q'=vF (m+1) q+q' j*4294967296^j:=by
   rw[x,q9,q9 (j+1)];have B:vF (j+1) q'=q' j*4294967296^j:=by
    show vF j q'+_=_;rw[yF fun i C=>by rw[f i om];exact h.q0 i om];omega
   have D:vF (j+1) q=0:=yF fun i C=>h.q0 i om;have E:vF y (fun i=>q' (j+1+i))=vF y (fun i=>q (j+1+i)):=jP fun i _=>f _ om;rw[B,D,E];omega
  rw[A,g,dK];have e:=cW (vF (n+1) (frm r j)) V;rw[<-o]at e;generalize vF (n+1) (frm r j)/V=d at *;generalize vF (n+1) (frm r j)=u at *;generalize vF (n+1) (frm r' j)=u' at *;generalize 4294967296^j=p at *;have I:p*u=d*p*V+p*u':=by
   rw[<-e,bV,aA V d,<-bH,aA p d]
  omega
 .have e:vF (n+1) (frm r' j)=vF n (frm r' j)+r' (j+n)*4294967296^n:=rfl;omega
 .rcases aB t (j+n+1)with a|a
  .rw[(om:t=j+n)];exact b
  .rw[k t a];exact h.top t om
def DN.last(h:DN n m X V 0 q r):vF (m+1) q=X/V/\vF (m+n+1) r=X%V:=by
 have b:vF (m+n+1) r=vF n (frm r 0):=by
  rw[(om:m+n+1=n+(m+1)),q9,yF (n:=m+1) fun i _=>h.top _ om,dO,cB]
  exact jP fun i _=>by simp[frm]
 have a:=h.rest;have c:=h.sum;rw[b]at *;have e:X=V*vF (m+1) q+vF n (frm r 0):=by rw[aA];omega
 rw[e];exact⟨by rw[jH om,ee a];rfl,by rw[kL,dT a]⟩

def BS(x bo y:Nat)(a:x<4294967296)(b:bo<=1)(c:y<4294967296) :
  IntKind.u64.wrap (IntKind.u64.wrap ((x:Int)-y)-bo)=((x+18446744073709551616-y-bo)%18446744073709551616:Nat):=by
 rw[ci,ci];omega
def LA.other{gv:Nat}(h:LA B w wr gv n ys)(b:B<=g)(a:gv≠g)(k:Nat)(u:Value):LA B w (wr.setCell ⟨g,k,none⟩ u) gv n ys:=by
 obtain⟨c,d,e,f,cs,i,j⟩:=h;exact⟨c.setCell (by exact b) _,d,e,f,cs,i.other a,j⟩
def LA.still{wr':World}(h:LA B w wr g n ps)(a:dW wr wr'):LA B w wr' g n ps:=by
 obtain⟨b,c,d,e,cs,f,i⟩:=h;exact⟨b.trans (a.below B),c,d,e,cs,by unfold fX at *;rw[a.heap];exact f,i⟩
def yP(h:f n=0):vF (n+1) f=vF n f:=by simp only[vF,h,nJ,cB]
def Jb{u v z:Nat}(h:vF i (frm (lf qs) j)+g*vF i (lf ys)=vF i (frm (lf ps) j)+(bor+car)*4294967296^i)(d:bor<=1)(e:u<4294967296)
  (b:lf ps (j+i)=u) (f:lf ys i=v) (k:g*v=z) (l:j+i<qs.length) :
  (u+18446744073709551616-(car+z)%4294967296-bor)%18446744073709551616/9223372036854775808<=1 /\
  vF (i+1) (frm (lf (qs.set (j+i) ((u+18446744073709551616-(car+z)%4294967296-bor)%4294967296))) j)+g*vF (i+1) (lf ys) =
   vF (i+1) (frm (lf ps) j)+((u+18446744073709551616-(car+z)%4294967296-bor)%18446744073709551616/9223372036854775808+(car+z)/4294967296)*4294967296^(i+1):=by
 subst k f;have a:frm (lf ps) j i=u:=b;have c:=Ri (q':=frm (lf (qs.set (j+i) ((frm (lf ps) j i+18446744073709551616-(car+g*lf ys i)%4294967296-bor)%4294967296))) j) h d (by rw[a];exact e) (fun m n=>by
  unfold frm;exact fU om) (by
  generalize (frm (lf ps) j i+18446744073709551616-(car+g*lf ys i)%4294967296-bor)%4294967296=x;unfold frm;exact rn l)
 rw[a]at c;exact⟨c.1,c.2.2⟩
def Ov{u:Nat}(h:vF n (frm (lf qs) j)+g*vF n (lf ys)=vF n (frm (lf ps) j)+(bor+car)*4294967296^n)(e:bor<=1)(f:u<4294967296)
  (a:lf ps (j+n)=u) (b:lf ys n=0) (c:car<4294967296) (i:j+n<qs.length) (k:W=(u+18446744073709551616-car-bor)%18446744073709551616) {m:Nat} (l:n+1=m) :
  W/9223372036854775808<=1/\vF m (frm (lf (qs.set (j+n) (W%4294967296))) j)+g*vF n (lf ys)=vF m (frm (lf ps) j)+W/9223372036854775808*4294967296^m:=by
 subst l;have d:=Jb h e f a b (dO g) i;rw[show car+0=car from rfl,dT c,ee c,cB,<-k,yP b,show(u+18446744073709551616-car-bor)%4294967296=W%4294967296 by omega]at d
 exact d
def Jc{u v:Nat}(h:vF i (frm (lf rs) j)+car*4294967296^i=vF i (frm (lf qq) j)+vF i (lf ys))(c:lf qq (j+i)=u)(d:lf ys i=v)(e:j+i<rs.length) :
  vF (i+1) (frm (lf (rs.set (j+i) ((car+(u+v))%4294967296))) j)+(car+(u+v))/4294967296*4294967296^(i+1)=vF (i+1) (frm (lf qq) j)+vF (i+1) (lf ys):=by
 subst d;have a:frm (lf qq) j i=u:=c;have b:=Rl (q':=frm (lf (rs.set (j+i) ((car+(frm (lf qq) j i+lf ys i))%4294967296))) j) h (fun m f=>by
  unfold frm;exact fU om) (by
  generalize (car+(frm (lf qq) j i+lf ys i))%4294967296=x;unfold frm;exact rn e)
 rw[a]at b;exact b
def OA{u:Nat}(h:vF n (frm (lf rs) j)+car*4294967296^n=vF n (frm (lf qq) j)+vF n (lf ys))(c:lf qq (j+n)=u)(a:lf ys n=0)(f:car<4294967296)(d:j+n<rs.length){m:Nat}(e:n+1=m) :
  vF m (frm (lf (rs.set (j+n) ((u+car)%4294967296))) j)+(u+car)/4294967296*4294967296^m=vF m (frm (lf qq) j)+vF n (lf ys):=by
 subst e;have b:=Jc h c a d;rw[cB u,jM car u,yP a]at b;exact b
def As(B:Nat)(w0 w:World)(g gv N M j k c1 c2:Nat)(ps ys:List Nat)(hN:N<=268435457)(hjk:j+k+3<=N)(hkM:k+3<=M)(hne:gv≠g)(hp:LA B w0 w g N ps)(hy:LA B w0 w gv M ys)
  (hv0:0<lf ys (k+1)) (hvt:lf ys (k+2)=0) (hU:vF (k+3) (frm (lf ps) j)<vF (k+2) (lf ys)*4294967296) (P:World->Prop) (hPs:∀wr wr',dW wr wr'->P wr->P wr') (hPc:∀(wr:World) (q:Nat) (u:Value),P wr->P (wr.setCell ⟨g,q,none⟩ u)) (hP:P w) :
  Calls ak 200 #[.slice (some ⟨g,j,none⟩) (k+3) c1,.slice (some ⟨gv,0,none⟩) (k+2) c2] w fun e w'=>∃qs,e=.returned (.int .u32 ((vF (k+3) (frm (lf ps) j)/vF (k+2) (lf ys):Nat):Int))/\LA B w0 w' g N qs/\LA B w0 w' gv M ys/\P w' /\
   (∀t,t<j∨j+k+3<=t->lf qs t=lf ps t)/\vF (k+3) (frm (lf qs) j)=vF (k+3) (frm (lf ps) j)%vF (k+2) (lf ys):=by
 have hlp:=uq hp.2.2.2.1;have hly:=uq hy.2.2.2.1;have hBg:=hp.2.1;have HPS:=ab hPs;clear hPs;have HPC:=ab hPc;clear hPc;have HP0:=ab hP;clear hP;obtain⟨a2,f2⟩:=hp.at_ (k:=j+(k+2)) om;obtain⟨a1,f1⟩:=hp.at_ (k:=j+(k+1)) om;obtain⟨a0,f0⟩:=hp.at_ (k:=j+k) om;obtain⟨d1,e1⟩:=hy.at_ (k:=k+1) om;obtain⟨d0,e0⟩:=hy.at_ (k:=k) om;have x2:=hlp (j+(k+2));have x1:=hlp (j+(k+1));have x0:=hlp (j+k);have y1:=hly (k+1);have y0:=hly k;have HK:=ab (KG.init (k:=k) (u:=frm (lf ps) j) (v:=lf ys) hv0 fun i _=>hlp _);have HFI:=ab (Mc (k:=k) (u:=frm (lf ps) j) (v:=lf ys) (fun i _=>hly i) hU);have HHP:=ab hp;clear hp;have HHY:=ab hy;clear hy;have HU:=ab hU;clear hU;have HLP:=ab hlp;clear hlp;have HLY:=ab hly;clear hly;have HVT:=ab hvt;clear hvt;change w.cell? ⟨g,j+(k+2),none⟩=some (.int .u32 (lf ps (j+(k+2)):Nat))at a2;change w.cell? ⟨g,j+(k+1),none⟩=some (.int .u32 (lf ps (j+(k+1)):Nat))at a1;change w.cell? ⟨g,j+k,none⟩=some (.int .u32 (lf ps (j+k):Nat))at a0;change w.cell? ⟨gv,k+1,none⟩=some (.int .u32 (lf ys (k+1):Nat))at d1;change w.cell? ⟨gv,k,none⟩=some (.int .u32 (lf ys k:Nat))at d0;change Hid (KG k (frm (lf ps) j) (lf ys) ((lf ps (j+(k+2))*4294967296+lf ps (j+(k+1)))/lf ys (k+1)) ((lf ps (j+(k+2))*4294967296+lf ps (j+(k+1)))%lf ys (k+1)))at HK;generalize hX2:lf ps (j+(k+2))=X2 at a2 x2 HK;generalize hX1:lf ps (j+(k+1))=X1 at a1 x1 HK;generalize hX0:lf ps (j+k)=X0 at a0 x0;generalize hY1:lf ys (k+1)=Y1 at d1 y1 hv0 HK;generalize hY0:lf ys k=Y0 at d0 y0;have HX2:=ab hX2;clear hX2;have HX1:=ab hX1;clear hX1;have HX0:=ab hX0;clear hX0;have HY1:=ab hY1;clear hY1;have HY0:=ab hY0;clear hY0;have hv0':(Y1:Int)≠0:=om
 have hv0n:Y1≠0:=om
 have HO:=ab (rc x2 x1);have ST:=ab (show ∀wr,dW w wr->(wr.cell? ⟨g,j+(k+2),none⟩=some (.int .u32 X2)/\wr.cell? ⟨g,j+k,none⟩=some (.int .u32 X0))/\wr.cell? ⟨gv,k+1,none⟩=some (.int .u32 Y1)/\wr.cell? ⟨gv,k,none⟩=some (.int .u32 Y0)from fun wr h=>⟨⟨(h.cell _).trans a2,(h.cell _).trans a0⟩,(h.cell _).trans d1,(h.cell _).trans d0⟩)
 go_enter func200,ntmps200
 go_wp2
 go_quiet (fail)
 go_wp2
 go_quiet (fail)
 clear a2 a1 a0 d1 d0 f2 f1 f0 e1 e0;go_wp2
 go_loopw [7,8] (fun gvv rvv wr=>∃(G R:Nat),gvv=.int .u64 G/\rvv=.int .u64 R/\R<4294967296/\G<18446744073709551616/\Hid (dW w wr)/\Hid (KG k (frm (lf ps) j) (lf ys) G R)) (fun gvv _ _=>(intOf gvv).toNat)
 case atStart =>
  have hh:X2*4294967296+X1<18446744073709551616:=om
  have hq:=gG (X2*4294967296+X1) Y1;have hr:=di (X2*4294967296+X1) hv0;refine⟨_,_,?_,?_,Nat.lt_trans hr y1,dG hq hh,ab (by repeat' (first|exact dW.refl _|apply dW.more)),HK⟩
  .rw[HO.out,fG (cO _),<-lN,ci];generalize (X2*4294967296+X1)/Y1=q at *;congr 1;omega
  .rw[HO.out,aJ (cO _),lM]
 case round =>
  obtain⟨G,R,rfl,rfl,hR,hG,HS,HKG⟩:=hrel;obtain⟨⟨a2,a0⟩,d1,d0⟩:=ST.out _ HS.out;clear HO HK x1 HX1;have hO2:=rc hR x0;obtain⟨Z,hZ⟩:∃Z,G*Y0=Z:=⟨_,rfl⟩;have hZi:(G:Int)*(Y0:Int)=(Z:Int):=by rw[<-hZ];simp
  have hZl:G<4294967296->Z<=18446744065119617025:=fun h=>hZ▸ob h y0;have hst:4294967296<=G∨R*4294967296+X0<Z->0<G/\Hid (KG k (frm (lf ps) j) (lf ys) (G-1) (R+Y1)):=fun h=>by
   have:=HKG.out.step (fun i _=>HLP.out _) HU.out (by rw[HY0.out,show frm (lf ps) j k=lf ps (j+k)from rfl,HX0.out,hZ];exact h)
   rw[HY1.out]at this;exact⟨this.1,ab this.2⟩
  have hbr:0<G->Hid (KG k (frm (lf ps) j) (lf ys) (G-1) (R+Y1))->4294967296<=R+Y1->Hid (G-1<4294967296/\(G-1)*vF (k+2) (lf ys)<vF (k+3) (frm (lf ps) j)+vF (k+2) (lf ys)/\∃r,KG k (frm (lf ps) j) (lf ys) (G-1) r):=fun h0 HK2 hr=>by
   have hF:=HK2.out.g_lt HFI.out (by rw[show frm (lf ps) j (k+1)=lf ps (j+(k+1))from rfl];exact HLP.out _) hr
   exact ab ⟨hF,HK2.out.last (fun i _=>HLY.out i) (by rw[HY1.out];exact hv0) hF (KG.big (HLY.out k) hF hr),_,HK2.out⟩
  have hen:G<4294967296->Z<=R*4294967296+X0->Hid (G<4294967296/\G*vF (k+2) (lf ys)<vF (k+3) (frm (lf ps) j)+vF (k+2) (lf ys)/\∃r,KG k (frm (lf ps) j) (lf ys) G r):=fun h0 h1 =>
   ab ⟨h0,HKG.out.last (fun i _=>HLY.out i) (by rw[HY1.out];exact hv0) h0 (by rw[HY0.out,show frm (lf ps) j k=lf ps (j+k)from rfl,HX0.out,hZ];exact h1),_,HKG.out⟩
  have HST:=ab hst;clear hst;have HBR:=ab hbr;clear hbr;have HEN:=ab hen;clear hen;have HZL:=ab hZl;clear hZl;clear hZ;rcases (show(4294967296<=G/\R+Y1<4294967296)∨(G<4294967296/\R*4294967296+X0<Z/\R+Y1<4294967296)∨(4294967296<=G/\4294967296<=R+Y1)∨(G<4294967296/\R*4294967296+X0<Z/\4294967296<=R+Y1)∨(G<4294967296/\Z<=R*4294967296+X0)from by omega)with h|h|h|h|h
  .obtain⟨hbig,hr⟩:=h;obtain⟨hg0,HK2⟩:=HST.out (a6 hbig);have hs1:¬(G:Int)/4294967296=0:=om
   have hs2:((G:Int)/4294967296==0)=false:=by simpa using hs1
   have hs3:((G:Int)/4294967296 != 0)=true:=by simpa using hs1
   have hr1:((R:Int)+Y1)/4294967296=0:=om
   go_wp2
   go_quiet (fail)
   go_wp2
   go_roundw
   case rel=>exact⟨G-1,R+Y1,by go_num,by go_num,hr,om,ab (by repeat' (first|exact HS.out|apply dW.more)),HK2⟩
   case measure=>simp[intOf];omega
  .obtain⟨hsm,hlt,hr⟩:=h;obtain⟨hg0,HK2⟩:=HST.out (aQ hlt);have hZl:=HZL.out hsm;have hs1:(G:Int)/4294967296=0:=om
   have hs2:((G:Int)/4294967296==0)=true:=by simpa using hs1
   have hs3:((G:Int)/4294967296 != 0)=false:=by simpa using hs1
   have hc1:bits .or .u64 ((R:Int)*4294967296) (X0:Int)<(Z:Int):=by rw[hO2];omega
   have hc2:decide (bits .or .u64 ((R:Int)*4294967296) (X0:Int)<(Z:Int))=true:=by simpa using hc1
   have hr1:((R:Int)+Y1)/4294967296=0:=om
   clear hO2;go_wp2
   go_quiet (fail)
   go_wp2
   go_roundw
   case rel=>exact⟨G-1,R+Y1,by go_num,by go_num,hr,om,ab (by repeat' (first|exact HS.out|apply dW.more)),HK2⟩
   case measure=>simp[intOf];omega
  all_goals first
   | (obtain⟨hbig,hr⟩:4294967296<=G/\4294967296<=R+Y1:=h
      obtain⟨hg0,HK2⟩:=HST.out (a6 hbig);have HE:=HBR.out hg0 HK2 hr;have hs1:¬(G:Int)/4294967296=0:=om
      have hs2:((G:Int)/4294967296==0)=false:=by simpa using hs1
      have hs3:((G:Int)/4294967296 != 0)=true:=by simpa using hs1
      have hr1:¬((R:Int)+Y1)/4294967296=0:=om
      have hw:IntKind.u64.wrap ((G:Int)-1)=((G-1:Nat):Int):=by rw[ci];omega
      clear hO2 HK2)
   | (obtain⟨hsm,hlt,hr⟩:G<4294967296/\R*4294967296+X0<Z/\4294967296<=R+Y1:=h
      obtain⟨hg0,HK2⟩:=HST.out (aQ hlt);have HE:=HBR.out hg0 HK2 hr;have hZl:=HZL.out hsm;have hs1:(G:Int)/4294967296=0:=om
      have hs2:((G:Int)/4294967296==0)=true:=by simpa using hs1
      have hs3:((G:Int)/4294967296 != 0)=false:=by simpa using hs1
      have hc1:bits .or .u64 ((R:Int)*4294967296) (X0:Int)<(Z:Int):=by rw[hO2];omega
      have hc2:decide (bits .or .u64 ((R:Int)*4294967296) (X0:Int)<(Z:Int))=true:=by simpa using hc1
      have hr1:¬((R:Int)+Y1)/4294967296=0:=om
      have hw:IntKind.u64.wrap ((G:Int)-1)=((G-1:Nat):Int):=by rw[ci];omega
      clear hO2 HK2)
   | (obtain⟨hsm,hge⟩:G<4294967296/\Z<=R*4294967296+X0:=h
      have HE:=HEN.out hsm hge;have hZl:=HZL.out hsm;have hs1:(G:Int)/4294967296=0:=om
      have hs2:((G:Int)/4294967296==0)=true:=by simpa using hs1
      have hs3:((G:Int)/4294967296 != 0)=false:=by simpa using hs1
      have hc1:¬bits .or .u64 ((R:Int)*4294967296) (X0:Int)<(Z:Int):=by rw[hO2];omega
      have hc2:decide (bits .or .u64 ((R:Int)*4294967296) (X0:Int)<(Z:Int))=false:=by simpa using hc1
      obtain⟨F,hF⟩:∃F,F=G:=⟨_,rfl⟩;subst hF;clear hO2)
  all_goals go_wp2
  all_goals go_quiet (fail)
  all_goals go_wp2
  all_goals try (have:=hg0;generalize G-1=F at HE ⊢)
  all_goals (
   clear HST HBR HEN HZL hZi;obtain⟨hF4,hFV,⟨rr,hKF⟩⟩:=HE.out;have HFV:=ab hFV;clear hFV;have HKF:=ab hKF;clear hKF
   go_loopw [9,10,83] (fun cv bv iv wr=>∃(i car bor:Nat) (qs:List Nat),i<=k+2/\iv=.int .i64 i/\cv=.int .u64 car/\bv=.int .u64 bor/\car<4294967296/\bor<=1/\Hid (LA B w0 wr g N qs)/\Hid (LA B w0 wr gv M ys)/\Hid (P wr)/\Hid (∀t,t<j∨j+i<=t->lf qs t=lf ps t)/\Hid (vF i (frm (lf qs) j)+F*vF i (lf ys)=vF i (frm (lf ps) j)+(bor+car)*4294967296^i)) (fun _ _ iv _=>(k+2)-(intOf iv).toNat))
  all_goals try exact⟨0,0,0,ps,om,rfl,rfl,rfl,om,om,ab (HHP.out.still (by repeat' (first|exact HS.out|apply dW.more))),ab (HHY.out.still (by repeat' (first|exact HS.out|apply dW.more))),ab (HPS.out w _ (by repeat' (first|exact HS.out|apply dW.more)) HP0.out),ab (fun _ _=>rfl),ab (by simp[vF])⟩
  all_goals (
   clear a2 a0 d1 d0;obtain⟨i,car,bor,qs,hi,rfl,rfl,rfl,hcar,hbor,HA,HB,HPP,HQ,HV⟩:=hrel;by_cases hin:i<k+2
   .obtain⟨hcu,hfu⟩:=HA.out.at_ (k:=j+i) om;obtain⟨hcv,hfv⟩:=HB.out.at_ (k:=i) om;have hu4:=HLP.out (j+i);have hv4:=HLY.out i;rw[show qs.getD (j+i) 0=lf ps (j+i)from HQ.out _ (aQ (ag _))]at hcu;change _=some (dx .u32 (lf ys i:Nat))at hcv;generalize hu:lf ps (j+i)=u at hcu hu4;generalize hv:lf ys i=v at hcv hv4;have hz4:=ob hF4 hv4;obtain⟨z,hz⟩:∃z,F*v=z:=⟨_,rfl⟩;rw[hz]at hz4;have hzi:(F:Int)*(v:Int)=(z:Int):=by rw[<-hz];simp
    have HSB:=ab (Jb HV.out hbor hu4 hu hv hz (by rw[HA.out.2.2.1];omega))
    clear hz hu hv;have HW:=ab (show IntKind.u64.wrap (IntKind.u64.wrap ((u:Int)-((car:Int)+z)%4294967296)-bor)=((u+18446744073709551616-(car+z)%4294967296-bor)%18446744073709551616:Nat) by
     rw[show((car:Int)+z)%4294967296=(((car+z)%4294967296:Nat):Int) by omega]
     exact BS u bor ((car+z)%4294967296) hu4 hbor om)
    have hin':(i:Int)<(k:Int)+2:=om
    have hi0:(0:Int)<=i:=om
    go_wp2
    go_roundw
    case rel =>
     rw[HW.out,DA,GX];refine⟨i+1,(car+z)/4294967296,_,_,om,by go_num,by go_num,rfl,om,HSB.out.1,ab (HA.out.put (k:=j+i) om om),ab (HB.out.other HA.out.2.1 hne _ _),ab (HPC.out _ _ _ HPP.out),ab (fun t ht=>?_),ab HSB.out.2⟩
     rw[show lf (qs.set (j+i) _) t=lf qs t from fU om];exact HQ.out t om
    case measure=>simp[intOf];omega
   .obtain rfl:i=k+2:=om
    obtain⟨hcu,hfu⟩:=HA.out.at_ (k:=j+(k+2)) om;have hu4:=HLP.out (j+(k+2));rw[show qs.getD (j+(k+2)) 0=lf ps (j+(k+2))from HQ.out _ (aQ (ag _))]at hcu;have hW0:=BS (lf ps (j+(k+2))) bor car hu4 hbor hcar;generalize hu:lf ps (j+(k+2))=u at hcu hu4 hW0;obtain⟨W,hW⟩:∃W,W=(u+18446744073709551616-car-bor)%18446744073709551616:=⟨_,rfl⟩;have HSB:=ab (Ov HV.out hbor hu4 hu HVT.out hcar (by rw[HA.out.2.2.1];omega) hW (show k+2+1=k+3 from rfl))
    rw[<-hW]at hW0;have hW64:W<18446744073709551616:=om
    clear hW hu;have hput:=HA.out.put (k:=j+(k+2)) (x:=W%4294967296) om om;have hoth:=HB.out.other HA.out.2.1 hne (j+(k+2)) (.int .u32 ((W%4294967296:Nat):Int));have hout:∀t,t<j∨j+k+3<=t->lf (qs.set (j+(k+2)) (W%4294967296)) t=lf ps t:=fun t ht=>by
     rw[show lf (qs.set (j+(k+2)) _) t=lf qs t from fU om];exact HQ.out t om
    have HP:=ab hput;clear hput;have HOT:=ab hoth;clear hoth;have HPT:=ab (HPC.out _ (j+(k+2)) (.int .u32 ((W%4294967296:Nat):Int)) HPP.out);have HOU:=ab hout;clear hout;by_cases hb:W/9223372036854775808=0
    .have hb1:(W:Int)/9223372036854775808=0:=om
     obtain⟨k1,k2⟩:=Oy HKF.out HSB.out.2 hb;have HK1:=ab k1;clear k1;have HK2:=ab k2;clear k2;clear HSB HKF HFV;go_wp2;go_ret;exact⟨_,by rw[<-HK1.out];rfl,by simpa using HP.out,by simpa using HOT.out,by simpa using HPT.out,HOU.out,HK2.out⟩
    .have hb1:¬(W:Int)/9223372036854775808=0:=om
     have hb2:W/9223372036854775808=1:=om
     have HQL:=ab (uq HP.out.2.2.2.1);have HSB0:=HSB;clear HSB;generalize hqq:qs.set (j+(k+2)) (W%4294967296)=qq at HSB0 HP HOU HQL;have hqx:lf qq (j+(k+2))=W%4294967296:=by rw[<-hqq,rn (by rw[HA.out.2.2.1];omega)]
     have HQX:=ab hqx;clear hqx;clear hqq HQ HV;go_wp2
     go_loopw [9,136] (fun cv iv wr=>∃(i car:Nat) (rs:List Nat),i<=k+2/\iv=.int .i64 i/\cv=.int .u64 car/\car<4294967296/\Hid (LA B w0 wr g N rs)/\Hid (LA B w0 wr gv M ys)/\Hid (P wr)/\Hid (∀t,t<j∨j+i<=t->lf rs t=lf qq t)/\Hid (vF i (frm (lf rs) j)+car*4294967296^i=vF i (frm (lf qq) j)+vF i (lf ys))) (fun _ iv _=>(k+2)-(intOf iv).toNat)
     case atStart=>exact⟨0,0,qq,om,rfl,rfl,om,ab (by simpa using HP.out),ab (by simpa using HOT.out),ab (by simpa using HPT.out),ab (fun _ _=>rfl),ab (by simp[vF])⟩
     case round =>
      clear HA HB HP HOT HPP HPT;obtain⟨i,car,rs,hi,rfl,rfl,hcar,HA,HB,HPP,HQ,HV⟩:=hrel;by_cases hin:i<k+2
      .obtain⟨hcu,hfu⟩:=HA.out.at_ (k:=j+i) om;obtain⟨hcv,hfv⟩:=HB.out.at_ (k:=i) om;have hu4:=HQL.out (j+i);have hv4:=HLY.out i;rw[show rs.getD (j+i) 0=lf qq (j+i)from HQ.out _ (aQ (ag _))]at hcu;change _=some (dx .u32 (lf ys i:Nat))at hcv;generalize hu:lf qq (j+i)=u at hcu hu4;generalize hv:lf ys i=v at hcv hv4;have HSB:=ab (Jc HV.out hu hv (by rw[HA.out.2.2.1];omega))
       clear hu hv;have hin':(i:Int)<(k:Int)+2:=om
       have hi0:(0:Int)<=i:=om
       go_wp2
       go_quiet (fail)
       go_wp2
       go_roundw
       case rel =>
        have hput:∀w',dW wr w'->LA B w0 (w'.setCell ⟨g,j+i,none⟩ (.int .u32 (((car:Int)+((u:Int)+v))%4294967296))) g N (rs.set (j+i) ((car+(u+v))%4294967296)):=fun w' h=>by
         have:=(HA.out.still h).put (k:=j+i) (x:=(car+(u+v))%4294967296) om om;simpa using this
        have hoth:∀w',dW wr w'->LA B w0 (w'.setCell ⟨g,j+i,none⟩ (.int .u32 (((car:Int)+((u:Int)+v))%4294967296))) gv M ys:=fun w' h=>(HB.out.still h).other HA.out.2.1 hne (j+i) _;refine⟨i+1,(car+(u+v))/4294967296,_,om,by go_num,by go_num,om,ab (hput _ (by repeat' (first|exact dW.refl _|apply dW.more))),ab (hoth _ (by repeat' (first|exact dW.refl _|apply dW.more))),ab (HPC.out _ _ _ (HPS.out wr _ (by repeat' (first|exact dW.refl _|apply dW.more)) HPP.out)),ab (fun t ht=>?_),HSB⟩
        rw[show lf (rs.set (j+i) _) t=lf rs t from fU om];exact HQ.out t om
       case measure=>simp[intOf];omega
      .obtain rfl:i=k+2:=om
       obtain⟨hcu,hfu⟩:=HA.out.at_ (k:=j+(k+2)) om;rw[show rs.getD (j+(k+2)) 0=W%4294967296 from(HQ.out _ (aQ (ag _))).trans HQX.out]at hcu;have HSB:=ab (OA HV.out HQX.out HVT.out hcar (by rw[HA.out.2.2.1];omega) (show k+2+1=k+3 from rfl))
       have hput:=HA.out.put (k:=j+(k+2)) (x:=(W%4294967296+car)%4294967296) om om;have hoth:=HB.out.other HA.out.2.1 hne (j+(k+2)) (.int .u32 (((W%4294967296+car)%4294967296:Nat):Int));obtain⟨k0,k1,k2⟩:=Ox HKF.out HFV.out (fun i _=>HQL.out _) (fun i _=>uq hput.2.2.2.1 _) (fun i _=>HLY.out i) HSB0.out.2 hb2 HSB.out;have HP:=ab hput;clear hput;have HOT:=ab hoth;clear hoth;have HPT:=ab (HPC.out _ (j+(k+2)) (.int .u32 (((W%4294967296+car)%4294967296:Nat):Int)) HPP.out);have HK1:=ab k1;clear k1;have HK2:=ab k2;clear k2;have hwr:IntKind.u64.wrap ((F:Int)-1)=((F-1:Nat):Int):=by rw[ci];omega
       have hw2:IntKind.u32.wrap ((W:Int)%4294967296+car)=(((W%4294967296+car)%4294967296:Nat):Int):=by rw[KY];omega
       have hF1:((F-1:Nat):Int)%4294967296=((F-1:Nat):Int):=om
       go_wp2;go_ret;refine⟨_,?_,by simpa using HP.out,by simpa using HOT.out,by simpa using HPT.out,fun t ht=>?_,HK2.out⟩
       .rw[<-HK1.out];first|rfl|trace_state
       .rw[show lf (rs.set (j+(k+2)) _) t=lf rs t from fU om];exact(HQ.out t om).trans (HOU.out t ht))

def LA.rebase(h:LA B1 w1 w2 g n ps)(b:Below B w0 w1)(a:B<=B1):LA B w0 w2 g n ps :=
 ⟨b.trans (h.1.mono a),bQ a h.2.1,h.2.2⟩
def LA.keep(h:LA B w0 w1 g n ps)(a:Below B1 w1 w2)(b:B<=B1)(c:g<B1):LA B w0 w2 g n ps:=by
 obtain⟨d,e,f,i,cs,j,k⟩:=h;exact⟨d.trans (a.mono b),e,f,i,cs,j.below a c,k⟩
def LA.lt(h:LA B w0 w1 g n ps):g<w1.heap.size:=by
 obtain⟨b,c,d,e,cs,a,f⟩:=h;exact a.lt
def zm(l:List Nat){n:Nat}(h:l.length=n):vF n (lf l)=bC l:=by rw[Ln l,h]
def Rk(y:2<=m)(c:ys.length=m)(q:mX ys)(ty:pg ys)(z:s<32)(d:ys.getD (m-1) 0*2^s<4294967296)(l:vF (m+1) (lf vs)=vF m (lf ys)*2^s)(g:V=bC ys*2^s) :
  lf vs m=0/\vF m (lf vs)=V/\V<=4294967296^m/\0<V/\4294967296^(m-1)<=bC ys:=by
 have t:ys≠[]:=by intro h;subst h;simp at c;omega
 have j:=sV ty t;rw[c]at j;have o:=jd s;rw[zm ys c,<-g]at l;have k:V<4294967296^m:=by
  obtain⟨r,rfl⟩:∃r,m=r+1:=⟨m-1,om⟩
  have u:bC ys=vF r (lf ys)+lf ys r*4294967296^r:=by rw[<-zm ys c]<;>rfl
  have A:=tM (n:=r) (f:=lf ys) fun i _=>uq q i;have v:(lf ys r+1)*2^s<=4294967296:=by
   have p:2^(32-s)*2^s=4294967296:=by rw[<-fD,(om:32-s+s=32)]
   have w:lf ys r<2^(32-s):=by
    have b:lf ys r*2^s<2^(32-s)*2^s:=by rw[p];exact d
    exact Li b
   rw[<-p];exact aq _ w
  have x:bC ys<(lf ys r+1)*4294967296^r:=by rw[u,cj];omega
  rw[g,bZ]
  calc
   bC ys*2^s<(lf ys r+1)*4294967296^r*2^s:=qQ x o
   _=(lf ys r+1)*2^s*4294967296^r:=by rw[bH,aA (4294967296^r),<-bH]
   _<=4294967296*4294967296^r:=aq _ v
   _=_:=aA _ _
 have a:lf vs m=0:=by
  have e:vF (m+1) (lf vs)=vF m (lf vs)+lf vs m*4294967296^m:=rfl;rcases bD (lf vs m)with b|b
  .exact b
  .have:=aq (4294967296^m) (show 1<=lf vs m from b);omega
 refine⟨a,by rw[<-yP a];exact l,du k,?_,j⟩
 rw[g];exact yW (cZ (iO om) j) o
def Oz(b:4294967296^(k+1)<=bC ys)(a:mX vs)(c:V=bC ys*2^s)(d:vF (k+2) (lf vs)=V):0<lf vs (k+1):=by
 rcases bD (lf vs (k+1))with h|h
 .rw[yP h]at d;have g:=tM (n:=k+1) (f:=lf vs) fun i _=>uq a i;have e:=aX b (jd s);rw[sD,<-c]at e;omega
 .exact h
def Ma{M:Nat}{xs:List Nat}(i:1<=m)(a:bC xs<4294967296^(M+m))(b:4294967296^(m-1)<=bC ys)(c:V=bC ys*2^s)(d:X=bC xs*2^s):X<V*4294967296^(M+1):=by
 rw[d,c];have f:=jd s;have e:(4294967296:Nat)^(M+m)=4294967296^(m-1)*4294967296^(M+1):=by rw[<-fD];congr 1;omega
 rw[e]at a;have j:=aq (4294967296^(M+1)) b;have g:bC xs<bC ys*4294967296^(M+1):=om
 have h:=qQ g f;rw[bH (bC ys),aA (2^s),<-bH];exact h
def Rj(b:V=y*2^s)(c:X=x*2^s):X/V=x/y/\X%V/2^s=x%y:=by
 have a:=jd s;subst b c;refine⟨Nat.mul_div_mul_right _ _ a,?_⟩;rw[Nat.mul_mod_mul_right,Nat.mul_div_cancel _ a]
def Ft(A D:Option Addr)(M k c d L:Nat)(xs ys:List Nat)(w:World)(hn:M+(k+2)<=268435000)(h2:2<M+(k+2))(hL:L<=w.heap.size)(hx:cE w L A (M+(k+2)) xs)(hy:cE w L D (k+2) ys)(tx:pg xs)(ty:pg ys)
  (h0:0<bC ys) (hge:¬bC xs<bC ys) :
  Calls ak 137 #[.slice A (M+(k+2)) c,.slice D (k+2) d] w (nf w (bC xs/bC ys) (bC xs%bC ys)):=by
 have hc:0<=lg (bC xs) (bC ys):=by
  rcases aB (bC ys) (bC xs)with h|h
  .rw[kD h];omega
  .rw[lF om];omega
 have hmk:=Dt (M+1) om;rw[show((M+1:Nat):Int)=(M:Int)+1 by omega]at hmk
 obtain⟨bd,rfl,hbdb,hcb⟩:=hy.2.2 om;have hcb0:=hcb (k+1) om;obtain⟨db,dof,dsp⟩:=bd;obtain rfl:dsp=none:=by simpa [Addr.add]using World.cell?_spot (hcb 0 om)
 rw[show(⟨db,dof,none⟩:Addr).add (k+1)=⟨db,dof+(k+1),none⟩from Addr.add_lit ..]at hcb0;have hy4:=hy.2.1.getD (k+1);have hyt:ys.getD (k+1) 0≠0:=by
  have hl:=hy.1;have hne:ys≠[]:=by intro h;subst h;simp at hl
  have e:=ty (ys.getLast hne) (Ig hne);rw[List.getLast_eq_getElem]at e;simp only[hl]at e;rw[df,bE om];exact e
 have hxv:=ju hx.2.1;rw[hx.1]at hxv;clear hcb;have HX:=ab hx;clear hx;have HY:=ab hy;clear hy;have HTX:=ab tx;clear tx;have HTY:=ab ty;clear ty;have HXV:=ab hxv;clear hxv;generalize hcm:lg (bC xs) (bC ys)=cm at hc;have Hcm:=ab hcm;clear hcm;generalize hty:ys.getD (k+1) 0=yt at hcb0 hy4 hyt;have HYT:=ab hty;clear hty;have HCB:=ab hcb0;clear hcb0;have hcn:¬cm<0:=om
 have hn2:¬(M:Int)+((k:Int)+2)<=2:=om
 have hn2':decide ((M:Int)+((k:Int)+2)<=2)=false:=by simpa using hn2
 have hk1:((k:Int)+2==1)=false:=by simp;omega
 have hk1':¬((k:Int)+2=1):=om
 clear hge
 go_enter Qw,Na
 go_wp2_with fail
 refine(im A (some ⟨db,dof,none⟩) (M+(k+2)) (k+2) c d L xs ys w om om HX.out HY.out HTX.out HTY.out).mono ?_;rintro e w1 ⟨rfl,hst⟩;rw[Hcm.out];have HB1:=ab (hst.below w.heap.size);have hcell:w1.cell? ⟨db,dof+(k+1),none⟩=some (.int .u32 yt):=(hst.cell _).trans HCB.out;clear hst;have HY1:=ab (HY.out.below HB1.out hL);have HX1:=ab (HX.out.below HB1.out hL);have hL1:L<=w1.heap.size:=bQ hL HB1.out.size
 go_wp2_with fail
 refine(J1 yt w1 om hy4).mono ?_;rintro e w1' ⟨s,rfl,hs,hsh,rfl⟩
 go_wp2_with fail
 have hsz1:=HB1.out.size;refine(sJ (some ⟨db,dof,none⟩) (k+2) d s L ys w1' om hs hL1 HY1.out).mono ?_;rintro e w2 ⟨cv,vs,rfl,hcv,hlv,hvv⟩;obtain⟨V,hV⟩:∃V,V=bC ys*2^s:=⟨_,rfl⟩;obtain⟨t1,t2,t3,t4,t5⟩:=Rk (m:=k+2) om HY.out.1 HY.out.2.1 HTY.out hs (by rw[show k+2-1=k+1 from rfl,HYT.out];exact hsh) hvv hV
 have t6:=Oz t5 hlv.2.2.2.1 hV t2;have HLV:=ab hlv;clear hlv;have HX2:=ab (HX1.out.below HLV.out.1 hL1);clear hcell hsh hvv
 go_wp2_with fail
 refine(sJ A (M+(k+2)) c s L xs w2 om hs (bQ hL1 HLV.out.1.size) HX2.out).mono ?_;rintro e w3 ⟨cr,rs,rfl,hcr,hlr,hvr⟩;rw[zm xs HX.out.1]at hvr;obtain⟨X,hX⟩:∃X,X=bC xs*2^s:=⟨_,rfl⟩;have hXV:=Ma (m:=k+2) (M:=M) om HXV.out t5 hV hX;rw[<-hX]at hvr;obtain⟨f1,f2⟩:=Rj hV hX;generalize hgv:w1'.heap.size=gv at HLV;generalize hgr:w2.heap.size=gr at hlr;have hgvr:gv<gr:=by rw[<-hgv,<-hgr];have:=HLV.out.lt;omega
 have HLV3:Hid (LA gv w1' w3 gv (k+2+1) vs):=ab (HLV.out.keep hlr.1 om hgvr);have HLR:Hid (LA gv w1' w3 gr (M+(k+2)+1) rs):=ab (hlr.rebase HLV.out.1 om);have hsz3:=hlr.1.size;clear hlr HLV;have HT:=ab (Bh t1 (Bh t2 (Bh t3 (Bh t4 t6))));clear t1 t2 t3 t4 t5 t6;have HF:=ab (Bh f1 f2);clear f1 f2;have HVR:=ab hvr;clear hvr;have HXV2:=ab hXV;clear hXV;clear hV hX;go_wp2;clear hmk;have hLQ:=LA.start w3 (M+1);generalize hgq:w3.heap.size=gq at hLQ;have hgq2:gr<gq:=by have:=HLR.out.lt;omega
 have HLQ:Hid (LA gv w1' (w3.alloc (.cells (dI [] (M+1)) 136)) gq (M+1) (cp (M+1) 0)):=ab (hLQ.rebase HLR.out.1 om);have HLV4:=ab (HLV3.out.keep hLQ.1 om om);have HLR4:=ab (HLR.out.keep hLQ.1 om hgq2);clear HLV3 HLR hLQ;have HDN:=ab (DN.init (n:=k+2) (m:=M) (X:=X) (V:=V) (q:=lf (cp (M+1) 0)) (r:=lf rs) (fun t=>by simp[lf,df,PR];split<;>rfl) HVR.out HXV2.out (fun t ht=>GY (by rw[HLR4.out.2.2.1];omega)))
 go_loopw [12] (fun jv wr=>∃(J:Nat) (qs rs:List Nat),J<=M+1/\jv=.int .i64 ((J:Int)-1)/\Hid (LA gv w1' wr gv (k+2+1) vs)/\Hid (LA gv w1' wr gr (M+(k+2)+1) rs)/\Hid (LA gv w1' wr gq (M+1) qs)/\Hid (DN (k+2) M X V J (lf qs) (lf rs))) (fun jv _=>(intOf jv+1).toNat)
 case atStart=>exact⟨M+1,_,rs,om,by go_num,HLV4,HLR4,HLQ,HDN⟩
 case round =>
  clear HLV4 HLR4 HLQ HDN;obtain⟨J,qs,rr,hJ,rfl,HLV,HLR,HLQ,HDN⟩:=hrel;rcases bD J with h0J|h0J
  .subst h0J;obtain⟨g1,g2⟩:=HDN.out.last;rw[HF.out.1,zm qs HLQ.out.2.2.1]at g1;have HG1:=ab g1;clear g1;have HG2:=ab g2;clear g2
   go_wp2_with fail
   refine(zH gv w1' _ gr (M+(k+2)+1) _ s rr om hs HLR.out (fun w=>LA gv w1' w gq (M+1) qs) (fun _ _ _ h=>h.other om om _ _) HLQ.out).mono ?_;rintro e w5 ⟨ps,rfl,hA,hQ,hval⟩;rw[HG2.out,HF.out.2,zm ps hA.2.2.1]at hval;have HVA:=ab hval;clear hval;have HA5:=ab hA;clear hA;have HQ5:=ab hQ;clear hQ
   go_wp2_with fail
   refine(kM _ _ _ _ _ _ om om HQ5.out.u32).mono ?_;rintro e w' ⟨⟨k1,hk1,rfl,hU1,hT1,hv1⟩,rfl⟩;have HU1:=ab hU1;clear hU1;have HT1:=ab hT1;clear hT1;have HV1:=ab hv1;clear hv1
   go_wp2_with fail
   refine(kM _ _ _ _ _ _ om om HA5.out.u32).mono ?_;rintro e w' ⟨⟨k2,hk2,rfl,hU2,hT2,hv2⟩,rfl⟩;have HU2:=ab hU2;clear hU2;have HT2:=ab hT2;clear hT2;have HV2:=ab hv2;clear hv2;go_wp2;go_ret2;exact⟨_,k1,_,_,_,k2,_,_,rfl,om,om,HU1.out,HU2.out,HT1.out,HT2.out,HV1.out.trans HG1.out,HV2.out.trans HVA.out,HB1.out.trans (HA5.out.1.mono om)⟩
  .obtain⟨j,rfl⟩:∃j,J=j+1:=⟨J-1,om⟩
   have e1:((j+1:Nat):Int)-1=j:=om
   rw[e1];have hj0:(j:Int)≥0:=om
   have hjM:(j:Int)<(M:Int)+1:=om
   have hjs:(j:Int)+((k:Int)+2)+1<=(M:Int)+((k:Int)+2)+1:=om
   have hr4:=uq HLR.out.2.2.2.1;have hun:=HDN.out.under (hr4 j);have hV2:vF (k+2) (lf vs)=V:=HT.out.2.1;have hq4:vF (k+3) (frm (lf rr) j)/V<4294967296:=Nat.div_lt_of_lt_mul (by rw[aA];rw[aA];exact hun)
   have HQ4:=ab hq4;clear hq4;have HUN:=ab hun;clear hun;have HV2:=ab hV2;clear hV2;clear hr4
   go_wp2_with fail
   rw[(om:j+(k+2)+1-j=k+3)]
   refine(As gv w1' _ gr gv (M+(k+2)+1) (k+2+1) j k _ cv rr vs om om om om HLR.out HLV.out HT.out.2.2.2.2 HT.out.1 (by rw[HV2.out];exact HUN.out)
    (fun w=>LA gv w1' w gq (M+1) qs) (fun _ _ hs h=>h.still hs) (fun _ _ _ h=>h.other om om _ _) HLQ.out).mono ?_
   rintro e w5 ⟨rs',rfl,hA,hB,hQ,hout,hval⟩;rw[HV2.out]at hval ⊢;have hstep:=HDN.out.step (q':=lf (qs.set j (vF (k+3) (frm (lf rr) j)/V))) (r':=lf rs') HT.out.2.2.1 HT.out.2.2.2.1 (fun t ht=>hout t (a6 ht)) (fun t ht=>hout t (aQ om)) hval (fun t ht=>fU (ai ht)) (rn (by rw[HLQ.out.2.2.1];omega))
   have HST:=ab hstep;clear hstep;have HQ5:=HQ4;clear HQ4 hval;generalize vF (k+3) (frm (lf rr) j)/V=q at HST HQ5 ⊢;have hq4:=HQ5.out;obtain⟨hcq,hfq⟩:=hQ.at_ (k:=j) om;have hput:=hQ.put (k:=j) (x:=q) om hq4;have HPU:=ab hput;clear hput;have HA:=ab (hA.other (g:=gq) om om j (.int .u32 (q:Nat)));have HB:=ab (hB.other (g:=gq) om om j (.int .u32 (q:Nat)));clear hA hB hQ hout;go_wp2
   go_roundw
   case rel=>exact⟨j,_,rs',om,rfl,HB,HA,HPU,HST⟩
   case measure=>simp[intOf]

def Fv(A D:Option Addr)(n m c d L:Nat)(xs ys:List Nat)(w:World)(h:n<=268435000)(l:m<=268435000)(e:L<=w.heap.size)(a:cE w L A n xs)(b:cE w L D m ys)(tx:pg xs)(ty:pg ys)(f:0<bC ys) :
  Calls ak 137 #[.slice A n c,.slice D m d] w (nf w (bC xs/bC ys) (bC xs%bC ys)):=by
 by_cases i:bC xs<bC ys∨n<=2∨m<=1
 .exact At A D n m c d L xs ys w om om e a b tx ty f i
 .have j:m<=n:=by
   have g:=fM (om:bC ys<=bC xs)
   rw[<-aD a tx,<-aD b ty]at g;exact g
  obtain⟨k,rfl⟩:∃k,m=k+2:=⟨m-2,om⟩
  obtain⟨M,rfl⟩:∃M,n=M+(k+2):=⟨n-(k+2),om⟩
  exact Ft A D M k c d L xs ys w h om e a b tx ty f om
def Ip(va vb:Value)(za zb:Int)(B:Nat)(w:World)(e:B<=w.heap.size)(f:eC w B va za)(g:eC w B vb zb)(sa:nl za.natAbs<=268435000)(sb:nl zb.natAbs<=268435000)(h:zb≠0) :
  Calls ak 82 #[va,vb] w (yf w (za/zb) (za%zb)) :=
 Ba va vb za zb B w e f g om om h fun A D n m c d xs ys w i a b tx ty j k l=>by
  rw[<-k,<-aD a tx]at sa;rw[<-l,<-aD b ty]at sb;exact Fv A D n m c d B xs ys w sa sb i a b tx ty j

def yw(k:Nat)(a0 b0:Int)(m:Nat->Int)(L:az)(i:Nat):Int:=(m (k-1)*L i k+L i (k-1)*b0)/a0
def tj(k:Nat)(p:PL)(a0 b0:Int)(m:Nat->Int)(L:az)(i:Nat):Int:=p.f0*L i (k-1)+p.f1*yw k a0 b0 m L i
def Af(k:Nat)(p:PL)(a0 b0:Int)(m:Nat->Int)(L:az)(i:Nat):Int:=p.s0*L i (k-1)+p.s1*yw k a0 b0 m L i
def OF(k:Nat)(p:PL)(a0 b0:Int)(m:Nat->Int)(L:az)(i:Nat):Int:=(p.a*Af k p a0 b0 m L i-p.b*tj k p a0 b0 m L i)/m (k-1)
def tn(k:Nat)(p:PL)(a0 b0:Int)(m:Nat->Int)(L:az):az:=fun i c =>
 if i=k-1 then p.f0*L (k-1) c+p.f1*L k c
 else if i=k then(if c=k-1 then p.b else p.s0*L (k-1) c+p.s1*L k c)
 else if k<i then(if c=k-1 then tj k p a0 b0 m L i else if c=k then OF k p a0 b0 m L i else L i c)
 else L i c
def OE(b:Pd A n)(d:0<k)(f:k<i)(a:i<n):yw k (det k A) (fq A k (k-1)) (fun c=>det c A) (fq A) i=cl A (k-1) (i-(k-1)) 1:=by
 have h:=b.lam_up d f a;unfold yw;have e:det (k-1) A*fq A i k+fq A i (k-1)*fq A k (k-1)=det k A*cl A (k-1) (i-(k-1)) 1:=by
  rw[h];unfold fq;grind
 rw[e,cn _ (b.ne (k:=k) om k (ag _))]
def OG{e:Nat}(r:Pd A n)(h:AT A n k e p)(l:0<k)(B:k<n){i j:Nat}(m:j<i)(s:i<n):tn k p (det k A) (fq A k (k-1)) (fun c=>det c A) (fq A) i j=fq (je A k p.f0 p.f1 p.s0 p.s1) i j:=by
 unfold tn;by_cases f:i=k-1
 .rw[aj f,f,FH om]
 rw[ah f];by_cases g:i=k
 .rw[aj g,g];by_cases d:j=k-1
  .rw[aj d,d];exact h.pl.pb.symm
  .rw[ah d,FG om]
 rw[ah g];by_cases d:k<i
 .rw[aj d];have t:=OE r l d s;obtain⟨w,x⟩:=RC (A:=A) (f0:=p.f0) (f1:=p.f1) (s0:=p.s0) (s1:=p.s1) l d;have u:tj k p (det k A) (fq A k (k-1)) (fun c=>det c A) (fq A) i=fq (je A k p.f0 p.f1 p.s0 p.s1) i (k-1):=by
   unfold tj;rw[t];exact w.symm
  have y:Af k p (det k A) (fq A k (k-1)) (fun c=>det c A) (fq A) i=cl (je A k p.f0 p.f1 p.s0 p.s1) (k-1) (i-(k-1)) 1:=by
   unfold Af;rw[t];exact x.symm
  by_cases o:j=k-1
  .rw[aj o,u,o]
  rw[ah o];by_cases q:j=k
  .rw[aj q,q];have v:=h.pl.pd.lam_up l d s;rw[h.pl.lead (k-1) om,h.pl.pa,h.pl.pb]at v;unfold OF;rw[u,y];have e:p.a*cl (je A k p.f0 p.f1 p.s0 p.s1) (k-1) (i-(k-1)) 1-p.b*fq (je A k p.f0 p.f1 p.s0 p.s1) i (k-1)=det (k-1) A*fq (je A k p.f0 p.f1 p.s0 p.s1) i k:=by
    rw[v];unfold fq;grind
   rw[e,cn _ (r.ne (k:=k) om (k-1) om)]
  .rw[ah q];rcases aB j k with z|z
   .rw[oN om f g m]
   .rw[h.pl.up i j om m]
 .rw[ah d,oN om f g m]
structure LSb(Q:az)(n K:Nat)(T:az):Prop where
 dt:∀k,k<n+1->(det k (gT Q n T)).natAbs<2^K
 lm:∀i c,i<n->c<i->(fq (gT Q n T) i c).natAbs<2^K
 tt:∀i j,i<n->j<n->(T i j).natAbs<2^K
def LS.bits{T:az}{d e:Nat}{w:Nat->Nat}(h:LS Q n d w T)(q:Pd Q n)(v:1<=n)(r:∀i,i<n->Q i i<=2^e)(s:e*n<=d)(l:∀i,i<n->w i<=W)(o:d+W<K):LSb Q n K T:=by
 obtain⟨m,rfl⟩:∃m,n=m+1:=⟨n-1,om⟩
 have g:e*m<=d:=bQ (aO e om) s;refine⟨fun k x=>?_,fun i c b t=>?_,fun i j b u=>?_⟩
 .have f:=h.lead k om;have p:=h.pd.pos k om;exact oE (a:=d) om om
 .have f:=h.lamB t b;have p:=l i b;exact oE (rj (a:=d+W) (cY f (d9 om))) o
 .have f:=h.coord q r g b u;have p:=l i b;exact oE (rj (a:=d+W) (cY f (d9 om))) o
def wR_le{d:Nat}(a:m<=n):wR d k m i<=5*d+13+n*(3*d+8):=by
 unfold wR;have:=aq (3*d+8) a;split
 .omega
 .split<;>omega
def AT.bits{e:Nat}(i:Pd A n)(h:AT A n k e p)(f:0<k)(g:k<n)(j:det k A<=2^e)(l:cl A (k-1) 1 1<=2^e)(d:e<K):p.a.natAbs<2^K/\p.b.natAbs<2^K/\p.c.natAbs<2^K/\p.f0.natAbs<2^K/\p.f1.natAbs<2^K/\p.s0.natAbs<2^K/\p.s1.natAbs<2^K:=by
 obtain⟨m,o,q,r,s⟩:=h.sq i f g j l;obtain⟨t,u⟩:=h.pos f g;have v:=h.a;have w:=h.c;exact⟨oE (a:=e) om d,oE (rj m) d,oE (a:=e) om d,oE (rj o) d,oE (rj q) d,oE (rj r) d,oE (rj s) d⟩

theorem oD:∀{n:Nat} {f g:Nat->Nat},(∀i,i<n->f i=g i)->jc n f=jc n g
 | 0,_,_,_=>rfl
 | n+1,f,g,h=>by
  simp only[jc];rw[h 0 om,oD (n:=n) fun i a=>h (i+1) om]
theorem Cc:∀{n:Nat} {f:Nat->Nat} {i:Nat},i<n->jc n f=f i*jc n (fun t=>if t=i then 1 else f t)
 | n+1,f,0,_=>by
  simp only[jc,aj];rw[mP,oD (n:=n) (f:=fun i=>if i+1=0 then 1 else f (i+1)) (g:=fun i=>f (i+1)) fun j _=>by rw[ah om]]
 | n+1,f,i+1,h=>by
  simp only[jc];rw[ah om,Cc (n:=n) (f:=fun i=>f (i+1)) (i:=i) om];rw[oD (n:=n) (f:=fun i_1=>if i_1+1=i+1 then 1 else f (i_1+1)) (g:=fun t=>if t=i then 1 else f (t+1)) fun j _=>by
   by_cases e:j=i
   .rw[aj e,aj om]
   .rw[ah e,ah om]]
  rw[<-bH,<-bH,aA (f 0)]
theorem wC:∀{n:Nat} {f:Nat->Nat},(∀i,i<n->1<=f i)->1<=jc n f
 | 0,_,_=>by simp[jc]
 | n+1,f,h=>by
  simp only[jc];exact yW (h 0 om) (wC fun i a=>h (i+1) om)
theorem Cd:∀{m N:Nat} {f:Nat->Nat} {O:Nat->Nat},(∀i,i<N->1<=f i)->(∀a,a<m->O a<N)->(∀a b,a<m->b<m->O a=O b->a=b)->jc m (fun a=>f (O a))<=jc N f
 | 0,_,_,_,h,_,_=>by simp only[jc];exact wC h
 | m+1,N,f,O,h,d,g=>by
  rw[Cc (d 0 om)];simp only[jc];refine aO _ ?_;have:=Cd (m:=m) (N:=N) (f:=fun t=>if t=O 0 then 1 else f t) (O:=fun a=>O (a+1)) (fun i c=>by
   split
   .exact ag _
   .exact h i c) (fun a j=>d (a+1) om) (fun a b j k e=>by
   have:=g (a+1) (b+1) om om e;omega)
  refine bQ (vY (oD fun a j=>?_)) this;rw[ah fun e=>by have:=g (a+1) 0 om om e;omega]
def zF(c:∀r,dR N (A r)<=f r){k i j:Nat}(d:k+j<N){σ:Nat->Nat}(e:∀g:Nat->Int,dR N (fun b=>g (σ b))=dR N g) :
  (cl (fun x y=>A x (σ y)) k i j).natAbs<=jc (k+1) (fun a=>f (if a<k then a else k+i)):=by
 unfold cl;refine bQ (DR _ _) (tb fun a _=>?_);refine bQ (FN (fun y=>A (up k (fun _=>i) a) (σ y)) d) ?_;rw[e (A (up k (fun _=>i) a))];exact c _
def Bl{B:az}(t:∀r,r<N->dR N (B r)<=f r)(p:∀r,r<N->1<=f r){k i j:Nat}(v:k+i<N)(u:k+j<N){σ:Nat->Nat}(q:∀a,a<N->σ a<N) :
  (cl (fun a b=>B (σ a) b) k i j).natAbs<=jc N f:=by
 unfold cl;have s:∀a,a<k+1->up k (fun _=>i) a<N:=fun a g=>by unfold up;split<;>omega
 by_cases d:∀a b,a<k+1->b<k+1->σ (up k (fun _=>i) a)=σ (up k (fun _=>i) b)->a=b
 .refine bQ (DR _ _) (bQ (tb fun a g=>?_) (Cd (m:=k+1) (N:=N) (f:=f) (O:=fun a=>σ (up k (fun _=>i) a)) p (fun a g=>q _ (s a g)) d));exact bQ (FN (fun y=>B (σ (up k (fun _=>i) a)) y) u) (t _ (q _ (s a g)))
 .have:∃a b,a<b/\b<k+1/\σ (up k (fun _=>i) a)=σ (up k (fun _=>i) b):=by
   refine cK fun l=>d fun a b g n e=>?_;rcases c8 a b with h|h|h
   .exact(l ⟨a,b,h,n,e⟩).elim
   .exact h
   .exact(l ⟨b,a,h,g,e.symm⟩).elim
  obtain⟨a,b,o,n,e⟩:=this;rw[my _ o n (fun c _=>by show B (σ (up k (fun _=>i) a)) _=B (σ (up k (fun _=>i) b)) _;rw[e])]
  have:=wC p;simp

def MT(n:Nat)(H:az)(v:gP):jm n H (fun _=>0) v=0:=iQ fun i _=>by simp
theorem uR(n:Nat)(H:az)(c:Nat->Int)(u:Nat->gP)(v:gP):∀m,jm n H (fun i=>ap m (fun a=>c a*u a i)) v=ap m (fun a=>c a*jm n H (u a) v)
 | 0=>MT n H v
 | m+1=>by
  have e:(fun i=>ap (m+1) (fun a=>c a*u a i))=fun i=>1*ap m (fun a=>c a*u a i)+c m*u m i:=by
   funext i;rw[cU];rfl
  rw[e,lG,uR n H c u v m,cU];rfl
def FJ(d:∀a b,a<n->b<n->H a b=H b a)(c:Nat->Int)(u:Nat->gP)(v:gP)(m:Nat):jm n H v (fun i=>ap m (fun a=>c a*u a i))=ap m (fun a=>c a*jm n H v (u a)):=by
 rw[jl d,uR];exact ay fun a _=>by rw[jl d]
def Kw(b:i<n)(c:j<n):jm n Q (dp i) (dp j)=Q i j:=by
 rw[AE b,cF j c (fun k _ a=>by simp[dp,a])]
 simp[dp]
def Mh{U W:az}(o:∀a b,a<n->b<n->Q a b=Q b a)(d:∀i j,i<n->j<n->mm n U W i j=if i=j then 1 else 0)(p:∀i j,i<n->j<n->A i j=jm n Q (fun r=>U r i) (fun r=>U r j)){i j:Nat}(e:i<n)(f:j<n) :
  jm n A (fun a=>W a i) (fun a=>W a j)=Q i j:=by
 have m:∀k,k<n->∀l,l<n->ap n (fun a=>W a k*U l a)=dp k l:=fun k q l c=>by
  have:=d l k c q;unfold mm at this;rw[ay (g:=fun a=>U l a*W a k) fun a _=>bU _ _,this];simp[dp]
 have s:jm n A (fun a=>W a i) (fun a=>W a j)=ap n (fun a=>W a i*jm n Q (fun r=>U r a) (fun l=>ap n (fun b=>W b j*U l b))):=by
  unfold jm;refine ay fun a t=>?_;have h:=FJ o (fun b=>W b j) (fun b r=>U r b) (fun r=>U r a) n;unfold jm at h;rw[h,bU];congr 1;refine ay fun b u=>?_;rw[p a b t u,bU];rfl
 rw[s,<-uR n Q (fun a=>W a i) (fun a r=>U r a),<-Kw (Q:=Q) e f];exact sn (fun l c=>m i e l c) (fun l c=>m j f l c)
def Gv(h:d*d=1):d=1∨d=-1:=by
 have a:(d-1)*(d+1)=0:=by grind
 rcases fK.1 a with b|b<;>omega
def J7(n:Nat)(U:az):az:=fun i j=>if det n U=1 then iq n U i j else-iq n U i j
def G3(d:1<=n){U:az}(h:det n U*det n U=1){i j:Nat}(f:i<n)(c:j<n):mm n U (J7 n U) i j=if i=j then 1 else 0:=by
 have e:mm n U (iq n U) i j=if j=i then det n U else 0:=by
  rw[<-t9 U c f];exact ay fun k g=>by rw[uT d U c g]
 unfold J7;rcases Gv h with a|a
 .have b:mm n U (fun i j=>if det n U=1 then iq n U i j else-iq n U i j) i j=mm n U (iq n U) i j:=ay fun k _=>by dsimp only;rw[aj a]
  rw[b,e,a];split<;>split<;>first|rfl|omega
 .have b:mm n U (fun i j=>if det n U=1 then iq n U i j else-iq n U i j) i j=- mm n U (iq n U) i j:=by
   unfold mm;rw[<-wl];exact ay fun k _=>by dsimp only;rw[ah om];grind
  rw[b,e,a];split<;>split<;>first|rfl|omega

def JR(A:az)(m k:Nat)(x:gP):Int:=ap m (fun j=>cl A k (j+1) 0*x (k+(j+1)))
def Pd.qSt_eq(h:Pd A n)(t:n=k+(m+1))(x:gP):det (k+1) A*yu A n k x=(det (k+1) A*x k+JR A m k x)*(det (k+1) A*x k+JR A m k x)+det k A*yu A n (k+1) x:=by
 have e:∀i j,i<m->j<m->det (k+1) A*cl A k (i+1) (j+1)=det k A*cl A (k+1) i j+cl A k (i+1) 0*cl A k (j+1) 0:=fun i j c b=>h.stg_rec2 om om;have f:∀j,j<m->cl A k 0 (j+1)=cl A k (j+1) 0:=fun j b=>h.stg_sym k 0 (j+1) om om;have g:n-k=m+1:=om
 have l:n-(k+1)=m:=om
 obtain⟨L,a⟩:∃L,L=JR A m k x:=⟨_,rfl⟩;obtain⟨Q,d⟩:∃Q,Q=ap m (fun i=>(ap m fun j=>cl A k (i+1) (j+1)*x (k+(j+1)))*x (k+(i+1))):=⟨_,rfl⟩;rw[<-a];unfold JR at a;have o:yu A n k x=det (k+1) A*x k*x k+L*x k+(x k*L+Q):=by
  unfold yu;rw[g,iG];have p:(ap (m+1) fun j=>cl A k 0 j*x (k+j))=det (k+1) A*x k+L:=by
   rw[iG,cH,a];congr 1;exact ay fun j b=>by rw[f j b]
  have q:ap m (fun i=>(ap (m+1) fun j=>cl A k (i+1) j*x (k+j))*x (k+(i+1)))=x k*L+Q:=by
   rw[a,d,<-cG,<-dH];refine ay fun i _=>?_;rw[iG,cB]
   grind
  rw[p,q,sG];rfl
 have r:det (k+1) A*Q=det k A*yu A n (k+1) x+L*L:=by
  unfold yu;rw[l,d,<-cG,<-cG];have s:L*L=ap m (fun i=>L*(cl A k (i+1) 0*x (k+(i+1)))):=by rw[cG,<-a]
  rw[s,<-dH];refine ay fun i c=>?_;have u:det (k+1) A*(ap m fun j=>cl A k (i+1) (j+1)*x (k+(j+1)))=det k A*(ap m fun j=>cl A (k+1) i j*x (k+1+j))+cl A k (i+1) 0*L:=by
   rw[a,<-cG,<-cG,<-cG,<-dH];refine ay fun j b=>?_;have:=e i j c b;rw[(om:k+1+j=k+(j+1))]
   grind
  rw[(om:k+1+i=k+(i+1))]
  grind
 rw[o];grind
def Pd.qSt_nn(h:Pd A n)(x:gP):∀m k,k+m=n->0<=yu A n k x
 | 0,k,a=>by
  unfold yu;rw[(om:n-k=0)]
  exact mV _
 | m+1,k,a=>by
  have e:=h.qSt_eq (k:=k) (m:=m) a.symm x;have b:=cC (a8 (h.pos k om)) (h.qSt_nn x m (k+1) om);have c:=iN (det (k+1) A*x k+JR A m k x);exact Int.nonneg_of_mul_nonneg_right om (h.pos (k+1) om)
def Mo(m:Nat)(c y:Nat->Int)(h:∀j,j<m->2*((c j).natAbs:Int)<=D)(a:0<=D):2*((ap m (fun j=>c j*y j)).natAbs:Int)<=D*ap m (fun j=>((y j).natAbs:Int)):=by
 induction m with
 | zero=>simp[ap]
 | succ m ih =>
  have b:=ih fun j d=>h j om;have e:=bK (h m om) (om:0<=((y m).natAbs:Int))
  have f:((c m*y m).natAbs:Int)=(c m).natAbs*(y m).natAbs:=by rw[cP,aV]
  simp only[ap];rw[zd];have g:2*((c m).natAbs:Int)*(y m).natAbs=2*((c m).natAbs*(y m).natAbs):=by grind
  omega
def Ed.coords(h:Ed R n){x:gP}{Y:Int}(c:0<=Y)(l:64000*jm n R x x<=Y*Y):∀m k,k+m=n ->
  2^m*ap m (fun j=>((x (k+j)).natAbs:Int))<=2*Y*(3^m-2^m)
 | 0,k,d=>by simp[ap]
 | m+1,k,d=>by
  have ih:=h.coords c l m (k+1) om;have o:=h.pd.pos k om;have b:=h.pd.pos (k+1) om;have e:=h.pd.qSt_eq (k:=k) (m:=m) d.symm x;have z:=cC (a8 o) (h.pd.qSt_nn x m (k+1) om);have p:=h.pd.qSt_le x k om;rw[zP]at p;have q:0<=jm n R x x:=by rw[<-zP];exact h.pd.qSt_nn x n 0 om
  have A:=bK (h.lead k om) q;obtain⟨L,f⟩:∃L,L=JR R m k x:=⟨_,rfl⟩;have g:2*(L.natAbs:Int)<=det (k+1) R*ap m (fun j=>((x (k+1+j)).natAbs:Int)):=by
   rw[f,show(fun j=>((x (k+1+j)).natAbs:Int))=fun j=>((x (k+(j+1))).natAbs:Int) by funext j;rw[(om:k+1+j=k+(j+1))]]
   refine Mo m _ _ (fun j B=>?_) om;have:=h.rows.1 (k+(j+1)) om k om;unfold ig fq at this
   rwa [(om:k+(j+1)-k=j+1)]at this
  rw[<-f]at e;obtain⟨D,r⟩:∃D,D=det (k+1) R:=⟨_,rfl⟩;rw[<-r]at e g b;have s:(D*x k+L)*(D*x k+L)<=(D*Y)*(D*Y):=by
   have t:=aT (om:yu R n k x<=Y*Y) (a8 b)
   have v:=bK (show D<=D*D by have:=aT (om:1<=D) (a8 b);omega) (cC c c)
   have C:(D*Y)*(D*Y)=D*D*(Y*Y):=by grind
   omega
  have E:=rY (cC (a8 b) c) s;have F:((D*x k).natAbs:Int)=D*(x k).natAbs:=by rw[cP,aV,Int.natAbs_of_nonneg om]
  obtain⟨T,i⟩:∃T,T=ap m (fun j=>((x (k+1+j)).natAbs:Int)):=⟨_,rfl⟩;rw[<-i]at g ih;have y:2*((x k).natAbs:Int)<=2*Y+T:=by
   refine iB (a:=D) ?_ b;have t:D*(2*((x k).natAbs:Int))=2*(D*(x k).natAbs):=by grind
   have v:D*(2*Y+T)=2*(D*Y)+D*T:=by grind
   omega
  rw[iG,cB,show ap m (fun j=>((x (k+(j+1))).natAbs:Int))=T by rw[i];exact ay fun j _=>by rw[(om:k+1+j=k+(j+1))]]
  have G:=aT y (show 0<=(2:Int)^m by exact a8 (Ii om))
  rw[eH,eH];generalize (2:Int)^m=u at *;generalize (3:Int)^m=w at *
  grind
def C1(f:Nat->Int)(a:∀j,0<=f j){j:Nat}(b:j<m):f j<=ap m f:=by
 induction m with
 | zero=>omega
 | succ m ih =>
  simp only[ap];have c:0<=ap m f:=by
   clear ih b
   induction m with
   | zero=>exact mV _
   | succ m ih=>simp only[ap];have:=a m;omega
  by_cases e:j=m
  .subst e;omega
  .have:=ih om;have:=a m;omega
def Ed.coord8(h:Ed R n)(c:n<=8){x:gP}(d:jm n R x x<=1128906250000000){j:Nat}(a:j<n):(x j).natAbs<=1099511627776:=by
 have b:=h.coords (x:=x) (Y:=8500000000) dc om n 0 om
 have e:=C1 (fun j=>((x j).natAbs:Int)) (fun j=>om) a
 simp only[aM]at b;generalize ap n (fun j=>((x j).natAbs:Int))=T at *;rcases (om:n=0∨n=1∨n=2∨n=3∨n=4∨n=5∨n=6∨n=7∨n=8)with rfl|rfl|rfl|rfl|rfl|rfl|rfl|rfl|rfl<;>omega

def kw(A:az)(i j:Nat)(q:Int):az:=fun r c=>if c=i then A r i-q*A r j else A r c
def lY(A:az)(i:Nat):az:=fun r c=>if c=i then-A r i else A r c
def BX(A:az)(i j:Nat):az:=fun r c=>A r (dq i j c)
def qK(n m:Nat)(A B:az):Prop:=∀x,eU n m A x↔eU n m B x
def qK.refl(n m:Nat)(A:az):qK n m A A:=fun _=>Iff.rfl
def qK.trans{B C:az}(h:qK n m A B)(k:qK n m B C):qK n m A C:=fun x=>(h x).trans (k x)
def qK.of{B:az}(a:∀j,j<m->eU n m A (fun i=>B i j))(b:∀j,j<m->eU n m B (fun i=>A i j)):qK n m A B :=
 fun _=>⟨eU.sub (eU.lat n m B) b,eU.sub (eU.lat n m A) a⟩
def Fc(A:az){i k:Nat}(d:i<m)(c:k<m)(b:i≠k)(q:Int):qK n m A (kw A i k q):=by
 refine qK.of (fun j a=>?_) (fun j a=>?_)
 .by_cases e:j=i
  .subst e;exact(eU.lat n m A).ext _ _ ((eU.lat n m A).comb _ _ (eU.col a) (eU.col c) 1 (-q)) (fun r _=>by simp only[kw,aH];grind)
  .exact(eU.lat n m A).ext _ _ (eU.col a) (fun r _=>by simp[kw,e])
 .by_cases e:j=i
  .subst e;refine(eU.lat n m _).ext _ _ ((eU.lat n m _).comb _ _ (eU.col (j:=j) a) (eU.col (j:=k) c) 1 q) (fun r _=>?_);simp only[kw,aH,ah (ai b)];grind
  .exact(eU.lat n m _).ext _ _ (eU.col (j:=j) a) (fun r _=>by simp[kw,e])
def Ot(A:az){i k:Nat}(d:i<m)(e:k<m):qK n m A (BX A i k):=by
 have c:∀j,j<m->dq i k j<m:=fun j a=>by unfold dq;split<;>(try split)<;>omega
 have b:∀j,dq i k (dq i k j)=j:=fun j=>by unfold dq;grind
 refine qK.of (fun j a=>eU.col (c j a)) (fun j a=>?_);have:=eU.col (n:=n) (B:=BX A i k) (c j a);simpa only[BX,b]using this
def L7(A:az){i:Nat}(b:i<m):qK n m A (lY A i):=by
 refine qK.of (fun j a=>?_) (fun j a=>?_)
 .by_cases e:j=i
  .subst e;exact(eU.lat n m A).ext _ _ ((eU.lat n m A).smul (eU.col a) (-1)) (fun r _=>by simp[lY])
  .exact(eU.lat n m A).ext _ _ (eU.col a) (fun r _=>by simp[lY,e])
 .by_cases e:j=i
  .subst e;exact(eU.lat n m _).ext _ _ ((eU.lat n m _).smul (eU.col (j:=j) a) (-1)) (fun r _=>by simp[lY])
  .exact(eU.lat n m _).ext _ _ (eU.col (j:=j) a) (fun r _=>by simp[lY,e])
def rJ(x q y:Int):(x-q*y).natAbs<=x.natAbs+q.natAbs*y.natAbs:=by
 rw[<-cP];omega
def Mw{s q r:Int}(b:q.natAbs*s.natAbs<=a.natAbs+r.natAbs):xj.natAbs*r.natAbs+(xc-q*xj).natAbs*s.natAbs<=xc.natAbs*s.natAbs+xj.natAbs*a.natAbs+2*(xj.natAbs*r.natAbs):=by
 have c:=aq s.natAbs (rJ xc q xj);have d:=aO xj.natAbs b;rw[dK]at c;rw[bV]at d;have e:q.natAbs*xj.natAbs*s.natAbs=xj.natAbs*(q.natAbs*s.natAbs):=by rw[aA q.natAbs,bH]
 omega
def O6{s q r:Int}(b:q.natAbs*s.natAbs+r.natAbs<=a.natAbs):xj.natAbs*r.natAbs+(xc-q*xj).natAbs*s.natAbs<=xc.natAbs*s.natAbs+xj.natAbs*a.natAbs:=by
 have c:=aq s.natAbs (rJ xc q xj);have d:=aO xj.natAbs b;rw[dK]at c;rw[bV]at d;have e:q.natAbs*xj.natAbs*s.natAbs=xj.natAbs*(q.natAbs*s.natAbs):=by rw[aA q.natAbs,bH]
 omega
def Rp{s:Int}(b:s≠0):0<=a-a/s*s/\(a-a/s*s).natAbs<s.natAbs/\(a/s).natAbs*s.natAbs<=a.natAbs+(a-a/s*s).natAbs:=by
 have e:=aW a b;have f:=SN a b;have c:=dz a s;rw[bU s]at c;have d:(a/s).natAbs*s.natAbs=(a/s*s).natAbs:=(cP ..).symm;rw[d];generalize a/s*s=z at *;omega
def O7{s:Int}(d:0<a)(e:0<s):(a/s).natAbs*s.natAbs+(a-a/s*s).natAbs<=a.natAbs:=by
 have f:=aW a (om:s≠0)
 have b:=dz a s;rw[bU s]at b;have c:(a/s).natAbs*s.natAbs=(a/s*s).natAbs:=(cP ..).symm;have g:0<=a/s*s:=cC (mC om om) om;rw[c];generalize a/s*s=z at *;omega
def SO(N X Y row c j:Nat)(A:az):Prop :=
 ((A row c).natAbs<=Y/\(A row j).natAbs<=Y)/\((∀r,r<N->(A r c).natAbs<=X/\(A r j).natAbs<=X) ∨
 (0<=A row j/\(A row j).natAbs<(A row c).natAbs/\(∀r,r<N->(A r c).natAbs<=12*(X*Y)) /\
  ((∀r,r<N->(A r c).natAbs*(A row j).natAbs+(A r j).natAbs*(A row c).natAbs<=4*(X*Y)) ∨
    (0<A row c/\∀r,r<N->(A r c).natAbs*(A row j).natAbs+(A r j).natAbs*(A row c).natAbs<=12*(X*Y)))))
def Le(A:az)(row c j:Nat):az:=BX (kw A c j (A row c/A row j)) c j
def Mx{row r:Nat}(h:c≠j):Le A row c j r c=A r j:=by
 simp[Le,BX,kw,dq,ai h]
def Jj{row r:Nat}(h:c≠j):Le A row c j r j=A r c-A row c/A row j*A r j:=by
 simp[Le,BX,kw,dq,ai h]
def Fq{row r:Nat}(a:k≠c)(b:k≠j):Le A row c j r k=A r k:=by
 simp[Le,BX,kw,dq,a,b]
def Fb(X:Nat):X<=X*X:=by
 rcases bD X with h|h
 .subst h;omega
 .exact tJ X h
def SO.bd{row:Nat}(h:SO N X Y row c j A)(d:0<Y){r:Nat}(b:r<N):(A r c).natAbs<=12*(X*Y)/\(A r j).natAbs<=12*(X*Y):=by
 have f:X<=X*Y:=tJ X d;rcases h.2 with h|⟨g,i,e,a⟩
 .have:=h r b;omega
 .refine⟨e r b,?_⟩;have k:=aO (A r j).natAbs (om:1<=(A row c).natAbs)
  rcases a with a|⟨_,a⟩
  .have:=a r b;omega
  .have:=a r b;omega
def SO.step{row:Nat}(h:SO N X Y row c j A)(l:0<Y)(b:c≠j)(m:A row j≠0):SO N X Y row c j (Le A row c j)/\(Le A row c j row j).natAbs<(A row j).natAbs:=by
 obtain⟨n,f,g⟩:=Rp (a:=A row c) m;obtain⟨o,q⟩:=h.1;refine⟨⟨by rw[Mx b,Jj b];omega,aQ ?_⟩,by rw[Jj b];exact f⟩
 simp only[Mx b,Jj b];refine⟨n,f,fun r d=>(h.bd l d).2,?_⟩;rcases h.2 with h|⟨v,w,x,e⟩
 .refine a6 fun r d=>?_;obtain⟨s,i⟩:=h r d;have p:=Mw (xc:=A r c) (xj:=A r j) g;have k:=aX s q;have y:=aX i o;have t:=aX i (show(A row c-A row c/A row j*A row j).natAbs<=Y by omega)
  omega
 .rcases e with e|⟨u,e⟩
  .refine aQ ⟨om,fun r d=>?_⟩
   have p:=Mw (xc:=A r c) (xj:=A r j) g;have k:=e r d;have t:=aO (A r j).natAbs (show(A row c-A row c/A row j*A row j).natAbs<=(A row c).natAbs by omega)
   omega
  .refine aQ ⟨om,fun r d=>?_⟩
   have p:=O6 (xc:=A r c) (xj:=A r j) (O7 u (om:0<A row j))
   have k:=e r d;omega
def gg(K m:Nat):Nat->Nat
 | 0=>K
 | i+1=>(if i=0 then 1 else 2)*(gg K m i+(m-1-i)*(gg K m i+4))+4
theorem P9(K m:Nat):∀i d,gg K m i<=gg K m (i+d)
 | i,0=>ag _
 | i,d+1=>by have:=P9 K m i d;show _<=(if i+d=0 then 1 else 2)*(gg K m (i+d)+_)+4;split<;>omega
def Jg{i':Nat}(h:i<=i'):gg K m i<=gg K m i':=by
 obtain⟨d,rfl⟩:∃d,i'=i+d:=⟨i'-i,om⟩
 exact P9 K m i d
def p12(k j:Nat):12*(2^k*2^j)<=2^(k+j+4):=by
 rw[<-fD,fD 2 (k+j) 4];omega
def pC{a b:Nat}(h:a<=b):2^a<=2^b:=cu om h
structure Lk(n m row c j:Nat)(A0 A:az):Prop where
 lat:qK n m A0 A
 left:∀r k,k<c->A r k=A0 r k
 low:∀r k,r<row->c<=k->k<m->A r k=0
 done:∀k,c<k->k<j->A row k=0
def Bd(N m K:Nat)(A:az):Prop:=∀r k,r<N->k<m->(A r k).natAbs<=2^K
structure PV(n m N K b row c j:Nat)(A0 A:az):Prop where
 ga:Lk n m row c j A0 A
 oth:∀r k,r<N->k<m->k≠c->k≠j->(A r k).natAbs<=2^K
 rw:∀k,c<=k->k<m->(A row k).natAbs<=2^b
 eu:SO N (2^K) (2^b) row c j A
def Lk.eu{b row:Nat}(h:Lk n m row c j A0 A)(d:Bd N m K A)(e:∀k,c<=k->k<m->(A row k).natAbs<=2^b)(g:c<m)(f:c<=j)(i:j<m):PV n m N K b row c j A0 A :=
 ⟨h,fun r k a l _ _=>d r k a l,e,⟨e c (ag _) g,e j f i⟩,a6 fun r a=>⟨d r c a g,d r j a i⟩⟩
def PV.step{b row:Nat}(h:PV n m N K b row c j A0 A)(q:c<j)(o:j<m)(s:A row j≠0):PV n m N K b row c j A0 (Le A row c j)/\(Le A row c j row j).natAbs<(A row j).natAbs:=by
 obtain⟨p,t⟩:=h.eu.step (iO om) om s;refine⟨⟨⟨h.ga.lat.trans ((Fc A om o om _).trans (Ot _ om o)),fun r k a=>?_,fun r k e a d=>?_,fun k i l=>?_⟩,fun r k e a i l=>?_,fun k a d=>?_,p⟩,t⟩
 .rw[Fq om om];exact h.ga.left r k a
 .have u:=h.ga.low r c e om om;have z2:=h.ga.low r j e om o;by_cases f:k=c
  .subst f;rw[Mx om];exact z2
  .by_cases g:k=j
   .subst g;rw[Jj om,u,z2];simp
   .rw[Fq f g];exact h.ga.low r k e a d
 .rw[Fq om om];exact h.ga.done k i l
 .rw[Fq i l];exact h.oth r k e a i l
 .by_cases f:k=c
  .subst f;exact p.1.1
  .by_cases g:k=j
   .subst g;exact p.1.2
   .rw[Fq f g];exact h.rw k a d
def PV.bd{b row:Nat}(h:PV n m N K b row c j A0 A):Bd N m (K+b+4) A:=fun r k a g=>by
 have e:=p12 K b;have i:=pC (om:K<=K+b+4)
 have l:=h.eu.bd (iO om) a;by_cases d:k=c
 .subst d;omega
 .by_cases f:k=j
  .subst f;omega
  .have:=h.oth r k a g d f;omega
def PV.fin{b row:Nat}(h:PV n m N K b row c j A0 A)(a:A row j=0):Lk n m row c (j+1) A0 A/\Bd N m (K+b+4) A :=
 ⟨⟨h.ga.lat,h.ga.left,h.ga.low,fun k d f=>by
  by_cases e:k=j
  .subst e;exact a
  .exact h.ga.done k d om⟩,h.bd⟩
def Lk.neg{row:Nat}(h:Lk n m row c j A0 A)(e:Bd N m K A)(f:c<m):Lk n m row c j A0 (lY A c)/\Bd N m K (lY A c):=by
 refine⟨⟨h.lat.trans (L7 A f),fun r k a=>?_,fun r k b a d=>?_,fun k g i=>?_⟩,fun r k b a=>?_⟩
 .simp only[lY];rw[ah om];exact h.left r k a
 .simp only[lY];have l:=h.low r c b om om;split
  .omega
  .exact h.low r k b a d
 .simp only[lY];rw[ah om];exact h.done k g i
 .simp only[lY];have l:=e r c b f;split
  .omega
  .exact e r k b a
def Gs(d:wW m i A)(f:i<=m){x c:gP}(g:∀r,r<i->x r=ap m (fun j=>A r j*c j))(h:∀r,r<i->x r=0):∀j,j<i->c j=0:=by
 intro j
 induction j using Nat.strongRecOn with
 | _ j ih =>
  intro b;have e:=g j b;rw[h j b,cF j om (fun k l n=>by
   rcases aB k j with a|a
   .rw[ih k a om];simp
   .rw[(d j b).1 k om l];simp)]at e
  rcases fK.1 e.symm with a|a
  .have:=(d j b).2;omega
  .exact a
structure JE(n m N K i:Nat)(A0 A:az):Prop where
 lat:qK n m A0 A
 tri:wW m i A
 red:∀r j,r<i->j<r->0<=A r j/\A r j<A r r
 bd:Bd N m (gg K m i) A
def JE.ga(h:JE n m N K i A0 A):Lk n m i i (i+1) A A :=
 ⟨qK.refl n m A,fun _ _ _=>rfl,fun r k b c a=>(h.tri r b).1 k om a,fun k d e=>om⟩
def JE.piv(h:JE n m N K i A0 A)(d:Lk n m i i m A A1)(p:i<n)(q:n<=m)(s:∃M,M≠0/\eU n m A0 (gH M i))(z:0<=A1 i i):wW m (i+1) A1/\∀r j,r<i->j<r->0<=A1 r j/\A1 r j<A1 r r:=by
 have l:wW m i A1:=fun r a=>⟨fun j f b=>by
   rcases aB j i with g|g
   .rw[d.left r j g];exact(h.tri r a).1 j f b
   .exact d.low r j a g b,by rw[d.left r r a];exact(h.tri r a).2⟩
 have t:A1 i i≠0:=fun e=>by
  obtain⟨M,u,v⟩:=s;obtain⟨c,o⟩:=(h.lat.trans d.lat _).1 v;have w:=Gs l om (fun r a=>o r om) (fun r a=>by simp only[gH];rw[ah om])
  have f:=o i p;rw[iQ fun k x=>by
   rcases c8 k i with b|b|b
   .rw[w k b];simp
   .rw[b,e];simp
   .rw[d.done k b x];simp]at f
  simp only[gH,aH]at f;exact u f
 refine⟨fun r a=>?_,fun r j a y=>?_⟩
 .by_cases e:r=i
  .subst e;exact⟨fun j f b=>d.done j f b,om⟩
  .exact l r om
 .rw[d.left r j om,d.left r r a];exact h.red r j a y
structure PJ(n m N K b i s:Nat)(A0 A:az):Prop where
 lat:qK n m A0 A
 tri:wW m (i+1) A
 red:∀r j,r<i->j<r->0<=A r j/\A r j<A r r
 now:∀j,j<s->0<=A i j/\A i j<A i i
 bd:∀r k,r<N->k<m->(A r k).natAbs<=if k<s then 2^(2*K+4)else 2^K
 rw:∀k,s<=k->k<=i->(A i k).natAbs<=2^b
def PJ.step{b:Nat}(h:PJ n m N K b i s A0 A)(y:s<i)(d:i<m)(o:i<N):PJ n m N K b i (s+1) A0 (kw A s i (A i s/A i i)):=by
 have p:=(h.tri i om).2;have z:∀r,r<i->A r i=0:=fun r a=>(h.tri r om).1 i a d;have keep:∀r k,r<i->kw A s i (A i s/A i i) r k=A r k:=fun r k a=>by
  simp only[kw];split
  .rename_i e;rw[z r a,e];simp
  .rfl
 have oth:∀r k,k≠s->kw A s i (A i s/A i i) r k=A r k:=fun r k l=>by simp[kw,l]
 refine⟨h.lat.trans (Fc A om d om _),fun r a=>?_,fun r j a q=>?_,fun j q=>?_,fun r k a l=>?_,fun k f c=>by rw[oth i k om];exact h.rw k om c⟩
 .by_cases e:r=i
  .subst e;exact⟨fun j f c=>by rw[oth r j om];exact(h.tri r om).1 j f c,by rw[oth r r om];exact p⟩
  .refine⟨fun j f c=>?_,?_⟩
   .rw[keep r j om];exact(h.tri r a).1 j f c
   .rw[keep r r om];exact(h.tri r a).2
 .rw[keep r j a,keep r r a];exact h.red r j a q
 .rw[oth i i om];by_cases e:j=s
  .subst e;simp only[kw,aH];have f:=aW (A i j) (om:A i i≠0)
   have c:=aS (A i j) p;have t:=dz (A i j) (A i i);rw[bU (A i i)]at t;omega
  .rw[oth i j e];exact h.now j om
 .by_cases e:k=s
  .subst e;rw[aj om];simp only[kw,aH];have g:=h.bd r k a l;have u:=h.bd r i a d;have v:=h.bd i k o l;rw[ah om]at g u v;have f:=rJ (A r k) (A i k/A i i) (A r i);have c:=jD (A i k) (A i i);have t:=aX (bQ c v) u;have x:=p12 K K;rw[(om:K+K+4=2*K+4)]at x
   have B:=Fb (2^K);omega
  .rw[oth r k e];have g:=h.bd r k a l;by_cases w:k<s
   .rw[aj w]at g;rw[aj om];exact g
   .rw[ah w]at g;rw[ah om];exact g
def JE.re(h:JE n m N K i A0 A)(d:n<=N)(a:Lk n m i i m A A1)(f:Bd N m K' A1)(g:(A1 i i).natAbs<=2^gg K m i)(l:i<n)(b:n<=m)(o:∃M,M≠0/\eU n m A0 (gH M i))(p:0<=A1 i i):PJ n m N K' (gg K m i) i 0 A0 A1:=by
 obtain⟨q,s⟩:=h.piv a l b o p;refine⟨h.lat.trans a.lat,q,s,fun j u=>om,fun r k t c=>by rw[ah om];exact f r k t c,fun k _ c=>?_⟩
 by_cases e:k=i
 .rw[e];exact g
 .rw[a.left i k om];exact h.bd i k om om
def PJ.fin{b:Nat}(h:PJ n m N K' b i i A0 A)(f:(if i=0 then 1 else 2)*K'+4<=gg K m (i+1)):JE n m N K (i+1) A0 A:=by
 refine⟨h.lat,h.tri,fun r j a c=>?_,fun r k a g=>?_⟩
 .by_cases e:r=i
  .subst e;exact h.now j c
  .exact h.red r j om c
 .have d:=h.bd r k a g;have l:=pC f;by_cases e:i=0
  .rw[ah om]at d;have o:=pC (show K'<=(if i=0 then 1 else 2)*K'+4 by rw[aj e];omega)
   omega
  .rw[ah e]at l;have o:=pC (om:K'<=2*K'+4)
   split at d<;>omega
def JE.init(a:Bd N m K A):JE n m N K 0 A A :=
 ⟨qK.refl n m A,fun r b=>om,fun r j b _=>om,a⟩
def JE.cut(h:JE n (n+1) N K n A0 A)(y:gP):eU n n A y↔eU n (n+1) A0 y:=by
 refine Iff.trans ?_ (h.lat y).symm;have z:∀r,r<n->A r n=0:=fun r d=>(h.tri r d).1 n d om;constructor
 .rintro⟨c,b⟩;exact⟨c,fun i a=>by rw[b i a];simp only[ap];rw[z i a];omega⟩
 .rintro⟨c,b⟩;exact⟨c,fun i a=>by rw[b i a];simp only[ap];rw[z i a];omega⟩

theorem zE:∀(n:Nat) (f:Nat->Int) (j:Nat),j<=n->ap (n+1) f=f j+ap n (fun b=>f (skip j b))
 | 0,f,j,c=>by
  obtain rfl:j=0:=om
  simp[ap]
 | n+1,f,j,c=>by
  show ap (n+1) f+f (n+1)=f j+(ap n (fun b=>f (skip j b))+f (skip j n));by_cases e:j=n+1
  .subst e;have d:ap n (fun b=>f (skip (n+1) b))=ap n f:=ay fun b g=>by unfold skip;rw[aj om]
   have a:skip (n+1) n=n:=by unfold skip;rw[aj om]
   rw[d,a];show ap n f+f n+f (n+1)=_;omega
  .rw[zE n f j om];have a:skip j n=n+1:=by unfold skip;rw[ah om]
   rw[a];omega
def JZ(A:az)(i j:Nat):az:=fun a b=>A (skip i a) (skip j b)
def CW(h:k≠j)(c:Nat):dp j (skip k c)=dp (if j<k then j else j-1) c:=by
 unfold dp skip;by_cases a:c<k<;>by_cases b:j<k<;>simp only[a,b,aH,aI]<;>(split<;>split)<;>omega
def N3{a b:Nat}(h:a%2=b%2):mY a=mY b:=by unfold mY;rw[h]
def II(a b:Nat):mY a*mY b=mY (a+b):=by
 unfold mY;rcases lr a with c|c<;>rcases lr b with d|d<;>simp[c,d,Nat.add_mod]
theorem Jp:∀(n:Nat) (A:az) (i j:Nat),i<n+1->j<n+1->pI (n+1) A i j=mY (i+j)*det n (JZ A i j)
 | n,A,0,j,_,f=>by
  show ap (n+1) (fun k=>mY k*setRow A 0 (dp j) 0 k*det n (cut (setRow A 0 (dp j)) k))=_;rw[cF j f (fun k _ d=>by simp[setRow,dp,d]),xX,aM]
  have e:setRow A 0 (dp j) 0 j=1:=by simp[setRow,dp]
  rw[e,iw];congr 1
 | 0,A,i+1,j,l,_=>om
 | n+1,A,i+1,j,l,f=>by
  show ap (n+1+1) (fun k=>mY k*setRow A (i+1) (dp j) 0 k*det (n+1) (cut (setRow A (i+1) (dp j)) k))=_;have m:∀k,setRow A (i+1) (dp j) 0 k=A 0 k:=fun k=>by simp[setRow]
  rw[ay (g:=fun k=>mY k*A 0 k*det (n+1) (setRow (cut A k) i (fun c=>dp j (skip k c)))) fun k _=>by rw[m,qB]]
  rw[zE (n+1) _ j om];have ez:det (n+1) (setRow (cut A j) i (fun c=>dp j (skip j c)))=0:=by
   have o:(fun c=>dp j (skip j c))=fun c=>0*dp j (skip j c):=by
    funext c;unfold dp skip;split<;>split<;>omega
   rw[o,oJ _ om];simp
  rw[ez,kH,QD];show _=mY (i+1+j)*ap (n+1) (fun b=>mY b*JZ A (i+1) j 0 b*det n (cut (JZ A (i+1) j) b));rw[<-cG];refine ay fun b u=>?_;have d:skip j b≠j:=by unfold skip;split<;>omega
  have p:(fun c=>dp j (skip (skip j b) c))=dp (if j<skip j b then j else j-1):=funext fun c=>CW d c
  rw[p];have q:(if j<skip j b then j else j-1)<n+1:=by unfold skip;split<;>split<;>omega
  have ih:=Jp n (cut A (skip j b)) i _ om q;unfold pI at ih;rw[ih];have r:JZ (cut A (skip j b)) i (if j<skip j b then j else j-1)=cut (JZ A (i+1) j) b:=by
   funext a c;show A (skip i a+1) (skip (skip j b) (skip _ c))=A (skip (i+1) (a+1)) (skip j (skip b c));have s:skip (i+1) (a+1)=skip i a+1:=by unfold skip;split<;>split<;>omega
   rw[s];congr 1;unfold skip;repeat' (first|omega|split)
  have t:JZ A (i+1) j 0 b=A 0 (skip j b):=by
   show A (skip (i+1) 0) (skip j b)=_;unfold skip;simp
  rw[r,t];have es:mY (skip j b)*mY (i+(if j<skip j b then j else j-1))=mY (i+1+j)*mY b:=by
   rw[II,II];refine N3 ?_;unfold skip;repeat' (first|omega|split)
  generalize mY (skip j b)=s1 at *;generalize mY (i+(if j<skip j b then j else j-1))=h at *
  generalize mY (i+1+j)=s3 at *;generalize mY b=s4 at *;generalize det n (cut (JZ A (i+1) j) b)=D;generalize A 0 (skip j b)=x;have:s1*x*(h*D)=(s1*h)*(x*D):=by grind
  rw[this,es];grind



def nb(z:Int)(k:Nat):Prop:=z.natAbs<2^k
def nb.mono(h:nb z k)(a:k<=j):nb z j:=cZ h (cu om a)
def nb.nl(h:nb z k)(a:k<=32*N):nl z.natAbs<=N:=by
 rw[jR,zS];exact h.mono a
def nb.add(c:nb a k)(d:nb b k):nb (a+b) (k+1):=by
 unfold nb at *;rw[bZ];omega
def nb.sub(c:nb a k)(d:nb b k):nb (a-b) (k+1):=by
 unfold nb at *;rw[bZ];omega
def nb.mul(c:nb a k)(d:nb b j):nb (a*b) (k+j):=by
 unfold nb at *;rw[cP,fD];exact Nat.mul_lt_mul_of_lt_of_lt c d
def nb.neg(b:nb a k):nb (-a) k:=by unfold nb at *;omega
def nb.zero(k:Nat):nb 0 k:=iO om
def nb.one(h:0<k):nb 1 k:=cZ (by decide:1<2^1) (cu om h)
def nb.i64(b:-9223372036854775808<=a)(c:a<=9223372036854775807):nb a 64:=by unfold nb;omega
def nb.of_le(h:a.natAbs<=b.natAbs)(c:nb b k):nb a k:=dG h c
def Sw{f:Nat}(h:∀va vb B w,B<=w.heap.size->eC w B va za->eC w B vb zb->Calls ak f #[va,vb] w (dJ w z)):PF f [.big za,.big zb] (.big z):=CC.pf rfl (QX h)
def pf1{f:Nat}(h:∀va B w,B<=w.heap.size->eC w B va za->Calls ak f #[va] w (dJ w z)):PF f [.big za] (.big z):=CC.pf rfl (QY h)
def pf1i{f:Nat}{k:IntKind}(h:∀va B w,B<=w.heap.size->eC w B va za->Calls ak f #[va] w fun e w'=>e=.returned (.int k z)/\Below w.heap.size w w'):PF f [.big za] (.int k z):=by
 intro w vs _ a
 match vs,a with
 | [va],a =>
  simp only[bB,bI]at a;refine(h va w.heap.size w (ag _) a.1).mono ?_;rintro e w' ⟨rfl,b⟩;exact⟨_,rfl,by simp[bI],dA.below b⟩
 | [],a=>simp[bB]at a
 | _::_::_,a=>simp[bB]at a
def pf2i{f:Nat}{k:IntKind}(h:∀va vb B w,B<=w.heap.size->eC w B va za->eC w B vb zb->Calls ak f #[va,vb] w fun e w'=>e=.returned (.int k z)/\Below w.heap.size w w'):PF f [.big za,.big zb] (.int k z):=by
 intro w vs _ a
 match vs,a with
 | [va,vb],a =>
  simp only[bB,bI]at a;refine(h va vb w.heap.size w (ag _) a.1 a.2.1).mono ?_;rintro e w' ⟨rfl,b⟩;exact⟨_,rfl,by simp[bI],dA.below b⟩
 | [],a=>simp[bB]at a
 | [_],a=>simp[bB]at a
 | _::_::_::_,a=>simp[bB]at a
def IS{f:Nat}(h:∀w,Calls ak f #[.int .i64 z] w (dJ w z)):PF f [.int .i64 z] (.big z):=by
 intro w vs _ a
 match vs,a with
 | [va],a =>
  simp only[bB,bI]at a;obtain⟨rfl,_⟩:=a;refine(h w).mono ?_;rintro e w' ⟨v,rfl,b,c⟩;exact⟨v,rfl,by simpa [bI]using b,dA.below c⟩
 | [],a=>simp[bB]at a
 | _::_::_,a=>simp[bB]at a
def IT{f:Nat}(h:∀va B w,B<=w.heap.size->eC w B va z->Calls ak f #[va] w fun e w'=>e=.returned (.tuple #[.int .i64 z,.bool true])/\Below w.heap.size w w'):PF f [.big z] (.tup [.int .i64 z,.bool true]):=by
 intro w vs _ a
 match vs,a with
 | [va],a =>
  simp only[bB,bI]at a;refine(h va w.heap.size w (ag _) a.1).mono ?_;rintro e w' ⟨rfl,b⟩;exact⟨_,rfl,by simp only[bI];exact⟨[_,_],rfl,by simp[bB,bI]⟩,dA.below b⟩
 | [],a=>simp[bB]at a
 | _::_::_,a=>simp[bB]at a
def l6(c:nb a k)(d:nb b k)(h:k<=8589934592):PF 133 [.big a,.big b] (.big (a+b)):=Sw fun va vb B w e f g=>P4 va vb a b B w e f g (c.nl om) (d.nl om)
def mG(c:nb a k)(d:nb b k)(h:k<=8589934592):PF 192 [.big a,.big b] (.big (a-b)):=Sw fun va vb B w e f g=>PE va vb a b B w e f g (c.nl om) (d.nl om)
def gL(c:nb a k)(d:nb b k)(h:k<=8589934592):PF 83 [.big a,.big b] (.big (a*b)):=Sw fun va vb B w e f g=>PO va vb a b B w e f g (c.nl om) (d.nl om)
def td(b:nb a k)(e:k<=8589934592):PF 193 [.big a] (.big (-a)):=pf1 fun va B w c d=>PN va a B w c d (b.nl om)
def sd(b:nb a k)(e:k<=8589934592):PF 157 [.big a] (.big a):=pf1 fun va B w c d=>BE va a B w c d (b.nl om)
def ka(b:nb a k)(e:k<=8589934592):PF 191 [.big a] (.int .i64 a.sign):=pf1i fun va B w c d=>AR va a B w c d (b.nl om)
def rB(c:nb a k)(d:nb b k)(h:k<=8589934592):PF 159 [.big a,.big b] (.int .i64 (kC a b)):=pf2i fun va vb B w e f g=>PZ va vb a b B w e f g (c.nl om) (d.nl om)
def fS(b:-9223372036854775808<=a)(c:a<=9223372036854775807):PF 81 [.int .i64 a] (.big a):=IS fun w=>KP a w b c
def pE(h:gU a):PF 84 [.big a] (.tup [.int .i64 a,.bool true]):=IT fun va B w b c=>KZ va a B w b c h
def He(f:nb a k)(d:nb b 32)(n:k<=1000000)(g:b≠0):PF 82 [.big a,.big b] (.tup [.big (a/b),.big (a%b),.bool true]):=by
 intro w vs _ c
 match vs,c with
 | [va,vb],c =>
  simp only[bB,bI]at c;refine(Io va vb a b w.heap.size w (ag _) c.1 c.2.1 (f.nl om) (d.nl om) g (.inr (.inr (d.nl om)))).mono ?_;rintro e w' ⟨h,i,rfl,j,l,m⟩;exact⟨_,rfl,by simp only[bI];exact⟨[h,i,.bool true],rfl,by simp only[bB,bI];exact⟨j,l,trivial,trivial⟩⟩,dA.below m⟩
 | [],c=>simp[bB]at c
 | [_],c=>simp[bB]at c
 | _::_::_::_,c=>simp[bB]at c
def ww(h:gU a):PF 72 [.big a] (.tup [.int .i64 a,.bool true]):=IT fun va B w b c=>Eh va a B w b c h
def r8(c:nb a k)(d:nb b k)(h:k<=8589934592):PF 87 [.big a,.big b] (.big (a+b)):=Sw fun va vb B w e f g=>CQ va vb a b B w e f g (c.nl om) (d.nl om)
def tV(c:nb a k)(d:nb b k)(h:k<=8589934592):PF 66 [.big a,.big b] (.big (a-b)):=Sw fun va vb B w e f g=>KO va vb a b B w e f g (c.nl om) (d.nl om)
def ja(c:nb a k)(d:nb b k)(h:k<=8589934592):PF 67 [.big a,.big b] (.big (a*b)):=Sw fun va vb B w e f g=>KR va vb a b B w e f g (c.nl om) (d.nl om)
def tW(b:nb a k)(e:k<=8589934592):PF 68 [.big a] (.big (-a)):=pf1 fun va B w c d=>CD va a B w c d (b.nl om)
def yJ(b:nb a k)(e:k<=8589934592):PF 45 [.big a] (.big a.natAbs):=pf1 fun va B w c d=>Lc va a B w c d (b.nl om)
def EU(b:nb a k)(e:k<=8589934592):PF 126 [.big a] (.big a):=pf1 fun va B w c d=>xe va a B w c d (b.nl om)
def jQ(b:nb a k)(e:k<=8589934592):PF 64 [.big a] (.int .i64 a.sign):=pf1i fun va B w c d=>tA va a B w c d (b.nl om)
def qr(c:nb a k)(d:nb b k)(h:k<=8589934592):PF 30 [.big a,.big b] (.int .i64 (kC a b)):=pf2i fun va vb B w e f g=>K7 va vb a b B w e f g (c.nl om) (d.nl om)
def fA(b:-9223372036854775808<=a)(c:a<=9223372036854775807):PF 29 [.int .i64 a] (.big a):=IS fun w=>FT a w b c

def Nl(va:Value)(za:Int)(B:Nat)(w:World)(hB:B<=w.heap.size)(ha:eC w B va za)(sa:nl za.natAbs<=536870912)(hz:¬gU za) :
  Calls ak 84 #[va] w fun e w'=>e=.returned (.tuple #[.int .i64 0,.bool false])/\Below w.heap.size w w':=by
 obtain⟨s1,A,n,c,xs,rfl,hnc,hx,tx,rfl⟩:=ha;rw[fJ,<-aD hx tx]at sa;have hb0:=(bG w.heap.size w).alloc (ag _) (Obj.cells #[Value.bool s1,Value.slice A n c] 50);have hv2:n<=2->bC xs<18446744073709551616:=fun h=>by
  rw[aD hx tx]at h;have:=jR.1 h;omega
 have HU:=ab (hx.below hb0 hB);have HX:=ab hx;clear hx;have HTX:=ab tx;clear tx;have HB:=ab hb0;clear hb0;unfold gU at hz;by_cases hn:n<=2
 .have hv3:=hv2 hn;have hn2:¬((2:Int)<(n:Int)):=om
  have hn3:decide ((2:Int)<(n:Int))=false:=by simpa using hn2
  cases s1
  .have hv:(sg false (bC xs))=(bC xs:Int):=by simp[sg]
   rw[hv]at hz;clear hv;generalize hvv:bC xs=v at hz hv3 hv2;have HV:=ab hvv;clear hvv;have hl:¬(v:Int)<9223372036854775808:=om
   have hl2:decide ((v:Int)<9223372036854775808)=false:=by simpa using hl
   clear hv2 hz hv3
   go_enter Jx,Es
   go_wp2_with fail
   refine(fR A n c B xs _ hnc om HU.out HTX.out).mono ?_;rintro e w' ⟨rfl,rfl⟩
   go_wp2_with fail
   refine(mn A n c B xs _ hn HU.out).mono ?_;rintro e w' ⟨rfl,rfl⟩;rw[HV.out];go_wp2;go_ret2;exact⟨rfl,HB.out⟩
  .have hv:(sg true (bC xs))=-(bC xs:Int):=by simp[sg]
   rw[hv]at hz;clear hv;generalize hvv:bC xs=v at hz hv3 hv2;have HV:=ab hvv;clear hvv;have hl:¬(v:Int)<=9223372036854775808:=om
   have hl2:decide ((v:Int)<=9223372036854775808)=false:=by simpa using hl
   clear hv2 hz hv3
   go_enter Jx,Es
   go_wp2_with fail
   refine(fR A n c B xs _ hnc om HU.out HTX.out).mono ?_;rintro e w' ⟨rfl,rfl⟩
   go_wp2_with fail
   refine(mn A n c B xs _ hn HU.out).mono ?_;rintro e w' ⟨rfl,rfl⟩;rw[HV.out];go_wp2;go_ret2;exact⟨rfl,HB.out⟩
 .have hn2:(2:Int)<(n:Int):=om
  have hn3:decide ((2:Int)<(n:Int))=true:=by simpa using hn2
  clear hv2 hz
  go_enter Jx,Es
  go_wp2_with fail
  refine(fR A n c B xs _ hnc om HU.out HTX.out).mono ?_;rintro e w' ⟨rfl,rfl⟩;go_wp2;go_ret2;exact⟨rfl,HB.out⟩
def Mi(c:nb a k)(f:k<=8589934592)(h:¬gU a):PF 84 [.big a] (.tup [.int .i64 0,.bool false]):=by
 intro w vs _ b
 match vs,b with
 | [va],b =>
  simp only[bB,bI]at b;refine(Nl va a w.heap.size w (ag _) b.1 (c.nl om) h).mono ?_;rintro e w' ⟨rfl,d⟩;exact⟨_,rfl,by simp only[bI];exact⟨[_,_],rfl,by simp[bB,bI]⟩,dA.below d⟩
 | [],b=>simp[bB]at b
 | _::_::_,b=>simp[bB]at b

def G9(a p:Nat)(w:World)(ha:a<1000000)(hp:p<1000000):Calls ak 124 #[.int .i64 a,.int .i64 p] w fun e w'=>e=.returned (.int .i64 (bz a p).1)/\dW w w':=by
 go_enter func124,ntmps124
 go_wp2
 go_loopw [0,1] (fun iv jv wr=>∃x y:Nat,iv=.int .i64 x/\jv=.int .i64 y/\x<1000000/\y<1000000/\Hid (dW w wr)/\Hid ((bz x y).1=(bz a p).1)) (fun _ jv _=>(intOf jv).toNat)
 case atStart=>exact⟨a,p,rfl,rfl,ha,hp,ab (dW.refl w),ab rfl⟩
 case round =>
  obtain⟨x,y,rfl,rfl,hx,hy,HQ,HD⟩:=hrel;by_cases h0:y=0
  .subst h0;have hr:=ab (show((x:Nat):Int)=(bz a p).1 by have:=HD.out;rw[nd]at this;exact this)
   go_wp2;go_ret;exact⟨by rw[hr.out];rfl,HQ.out⟩
  .have hyz:((y:Nat):Int)≠0:=om
   have hlt:=ab (di x (gI h0));go_wp2
   go_quiet (fail)
   go_wp2;refine⟨⟨y,x%y,rfl,by rw[lM],hy,by have:=hlt.out;omega,ab (by repeat' (first|exact HQ.out|apply dW.more)),ab (by rw[<-HD.out,sk x h0])⟩,?_⟩
   have h2:=hlt.out;rw[<-lM];exact h2
def Kc(a p:Nat)(c:a<1000000)(d:p<1000000):PF 124 [.int .i64 a,.int .i64 p] (.int .i64 (bz a p).1):=by
 intro w vs _ b
 match vs,b with
 | [va,vb],b =>
  simp only[bB,bI]at b;obtain⟨rfl,rfl,_⟩:=b;refine(G9 a p w c d).mono ?_;rintro e w' ⟨rfl,f⟩;exact⟨_,rfl,by simp[bI],dA.below (f.below _)⟩
 | [],b=>simp[bB]at b
 | [_],b=>simp[bB]at b
 | _::_::_::_,b=>simp[bB]at b

def Cw(x y c:Nat)(a:c<=1)(w:World):(callFunc 252 #[.int .u64 x,.int .u64 y,.int .u64 c]).run ak w =
   .ok (.value (.tuple #[.int .u64 (((x:Int)+y+c)%18446744073709551616),.int .u64 (((x:Int)+y+c)/18446744073709551616)])) w:=by
 rw[Tg func252 kr kr kr (e:=add64Entry) kr,run_add64 x y c om om om om]
 rfl
def QQ:Array Value->Sem Value:=fun args=>do
 let (x, y, b) <- Extern.MathBitsCarry.three "Sub64" args
 pure (Extern.MathBitsCarry.pair ((x+Extern.MathBitsCarry.m64-y-b)%Extern.MathBitsCarry.m64) (if x<y+b then 1 else 0))
def B3(x y b:Nat)(a:b<=1)(w:World):(callFunc 253 #[.int .u64 x,.int .u64 y,.int .u64 b]).run ak w =
   .ok (.value (.tuple #[.int .u64 (((x+18446744073709551616-y-b)%18446744073709551616:Nat):Int),.int .u64 ((if x<y+b then 1 else 0:Nat):Int)])) w:=by
 rw[Tg func253 kr kr kr (e:=QQ) kr]
 have:b=0∨b=1:=om
 rcases this with rfl|rfl<;>rfl
def zj{v:Value}(h:bI w M (.agg [.int .u64 a,.int .u64 b]) v):v=.agg #[.int .u64 a,.int .u64 b]:=by
 simp only[bI]at h;obtain⟨vs,rfl,h⟩:=h
 match vs,h with
 | [x,y],h =>
  simp only[bB,bI]at h;obtain⟨rfl,rfl,_⟩:=h;simp[Value.cells]
 | [],h=>simp[bB]at h
 | [_],h=>simp[bB]at h
 | _::_::_::_,h=>simp[bB]at h
def NO(w:World)(M:Nat->Prop)(a b:Int):bI w M (.agg [.int .u64 a,.int .u64 b]) (.agg #[.int .u64 a,.int .u64 b]):=by
 simp only[bI];exact⟨[.int .u64 a,.int .u64 b],by simp[Value.cells],by simp[bB,bI]⟩

def GV(a:Nat)(b:a<18446744073709551616):bits .and .u64 (a:Int) 4294967295=((a%4294967296:Nat):Int):=by
 have h:=bits_and_u64_nat a 4294967295 b om;have e:a &&& 4294967295=a%4294967296:=Nat.and_two_pow_sub_one_eq_mod a 32;rw[e]at h;exact h
def div64(a:Nat):(a:Int)/4294967296=((a/4294967296:Nat):Int):=om
def Rc(a b:Nat):(a:Int)*(b:Int)=((a*b:Nat):Int):=(aV a b).symm
def RO(a b:Nat):(a:Int)+(b:Int)=((a+b:Nat):Int):=(ef a b).symm
def xF(a:Nat)(b:a<18446744073709551616):IntKind.u64.wrap (a:Int)=(a:Int):=by rw[ci];omega
def NN(a:Nat):IntKind.u64.wrap (a:Int)=((a%18446744073709551616:Nat):Int):=by rw[ci];omega
def JY(x y:Nat)(hx:x<18446744073709551616)(hy:y<18446744073709551616)(w:World):Calls ak 251 #[.int .u64 x,.int .u64 y] w fun e w'=>e=.returned (.tuple #[.int .u64 ((x*y/18446744073709551616:Nat):Int),.int .u64 ((x*y%18446744073709551616:Nat):Int)])/\w'=w:=by
 obtain⟨bd,bt,bw,hhi⟩:=Lib.mul64_hi x y hx hy;have ba:=Lib.half_mul_le (a:=x/4294967296) (b:=y/4294967296) om om;have bb:=Lib.half_mul_le (a:=x/4294967296) (b:=y%4294967296) om om;have bc:=Lib.half_mul_le (a:=x%4294967296) (b:=y/4294967296) om om;have ba':x/4294967296*(y/4294967296)<18446744073709551616:=om
 have bb':x/4294967296*(y%4294967296)<18446744073709551616:=om
 have bc':x%4294967296*(y/4294967296)<18446744073709551616:=om
 have bh1:x/4294967296*(y/4294967296)+(x/4294967296*(y%4294967296)+x%4294967296*(y%4294967296)/4294967296)/4294967296<18446744073709551616:=om
 have bh:x/4294967296*(y/4294967296)+(x/4294967296*(y%4294967296)+x%4294967296*(y%4294967296)/4294967296)/4294967296+((x/4294967296*(y%4294967296)+x%4294967296*(y%4294967296)/4294967296)%4294967296+x%4294967296*(y/4294967296))/4294967296<18446744073709551616:=om
 go_enter func251,ntmps251
 go_wp2;simp only[GV x hx,GV y hy,div64,Rc,RO,xF _ bd,xF _ bb',xF _ bt,GV _ bt,xF _ bc',xF _ bw,xF _ ba',xF _ bh1,xF _ bh,NN (x*y)];rw[hhi];go_ret2;exact⟨rfl,rfl⟩
def yK(W:Nat):∃W1 W0,W/18446744073709551616=W1/\W%18446744073709551616=W0/\W=18446744073709551616*W1+W0/\W0<18446744073709551616 :=
 ⟨_,_,rfl,rfl,(cW W 18446744073709551616).symm,di _ om⟩
def Ll(W x y:Nat)(hx:x<18446744073709551616)(hy:y<18446744073709551616)(hs:W+x*y<340282366920938463463374607431768211456)(w:World):Calls ak 215 #[.agg #[.int .u64 ((W/18446744073709551616:Nat):Int),.int .u64 ((W%18446744073709551616:Nat):Int)],.int .u64 x,.int .u64 y] w fun e w'=>e=.returned (.agg #[.int .u64 (((W+x*y)/18446744073709551616:Nat):Int),.int .u64 (((W+x*y)%18446744073709551616:Nat):Int)])/\Below w.heap.size w w':=by
 have hm:=JY x y hx hy;generalize x*y=P at hm hs ⊢;obtain⟨W1,W0,a1,a2,a3,a4⟩:=yK W;obtain⟨P1,P0,b1,b2,b3,b4⟩:=yK P;obtain⟨C,hC⟩:∃C,C=(W0+P0)/18446744073709551616:=⟨_,rfl⟩;obtain⟨R0,hR0⟩:∃R,R=(W0+P0)%18446744073709551616:=⟨_,rfl⟩;have hR:=cW (W0+P0) 18446744073709551616;rw[<-hC,<-hR0]at hR;have hR0l:R0<18446744073709551616:=by rw[hR0];exact di _ om
 have e1:=Cw W0 P0 0 om;have q1:((W0:Int)+(P0:Int)+((0:Nat):Int))%18446744073709551616=(R0:Int):=by
  rw[hR0,lM,ef];simp
 have q2:((W0:Int)+(P0:Int)+((0:Nat):Int))/18446744073709551616=(C:Int):=by
  rw[hC,lN,ef];simp
 rw[q1,q2]at e1;clear q1 q2 hC hR0;have hC1:C<=1:=om
 have hsum:W+P=18446744073709551616*(W1+P1+C)+R0:=om
 have hlt:W1+P1+C<18446744073709551616:=om
 have r1:(W+P)/18446744073709551616=W1+P1+C:=by rw[hsum];omega
 have r0:(W+P)%18446744073709551616=R0:=by rw[hsum];omega
 rw[a1,a2,r1,r0];rw[b1,b2]at hm;have e2:=Cw W1 P1 C hC1;have q3:((W1:Int)+(P1:Int)+(C:Int))%18446744073709551616=((W1+P1+C:Nat):Int):=by
  rw[<-ef,<-ef];exact dv (cO _) om
 rw[q3]at e2;clear q3 hs hsum hlt r1 r0 hR a1 a2 a3 a4 b1 b2 b3 b4 hR0l hC1;generalize ((W1:Int)+(P1:Int)+(C:Int))/18446744073709551616=cc at e2;generalize W1+P1+C=R1 at *
 go_enter func215,ntmps215
 go_wp2_with fail
 refine(hm _).mono ?_;rintro e w' ⟨rfl,hw'⟩;rw[hw']
 go_wp2_with (first|simp only[show(0:Int)=((0:Nat):Int)from rfl,e1]|simp only[e2])
 refine cQ (v:=.agg #[.int .u64 (R1:Int),.int .u64 (R0:Int)]) (by simp[results,results215,go_sem]) rfl ⟨rfl,((bG _ w).alloc (ag _) _).alloc sm _⟩
def IB(a:x<18446744073709551616)(b:y<18446744073709551616)(d:c<=1):(x+18446744073709551616-y-c)%18446744073709551616=if x<y+c then x+18446744073709551616-y-c else x-y-c:=by
 split
 .exact dT om
 .rw[(om:x+18446744073709551616-y-c=(x-y-c)+18446744073709551616),Nat.add_mod_right]
  exact dT om
def Gp(W V:Nat)(hW:W<340282366920938463463374607431768211456)(hV:V<340282366920938463463374607431768211456)(w:World):Calls ak 216 #[.agg #[.int .u64 ((W/18446744073709551616:Nat):Int),.int .u64 ((W%18446744073709551616:Nat):Int)],.agg #[.int .u64 ((V/18446744073709551616:Nat):Int),.int .u64 ((V%18446744073709551616:Nat):Int)]] w fun e w'=>e=.returned (.tuple #[.int .i64 (if V<=W/\W-V<=4611686018427387904 then((W-V:Nat):Int)else 0),.bool (decide (V<=W/\W-V<=4611686018427387904))])/\Below w.heap.size w w':=by
 obtain⟨W1,W0,a1,a2,a3,a4⟩:=yK W;obtain⟨V1,V0,b1,b2,b3,b4⟩:=yK V;rw[a1,a2,b1,b2];have e1:=B3 W0 V0 0 om;rw[IB a4 b4 om]at e1;obtain⟨c,hc,hc1⟩:∃c,c=(if W0<V0+0 then 1 else 0:Nat)/\c<=1:=⟨_,rfl,by split<;>omega⟩
 obtain⟨lo,hlo⟩:∃z,z=(if W0<V0+0 then W0+18446744073709551616-V0-0 else W0-V0-0:Nat):=⟨_,rfl⟩
 rw[<-hc,<-hlo]at e1;have e2:=B3 W1 V1 c hc1;rw[IB om om hc1]at e2;obtain⟨br,hbr⟩:∃z,z=(if W1<V1+c then 1 else 0:Nat):=⟨_,rfl⟩
 obtain⟨hi,hhi⟩:∃z,z=(if W1<V1+c then W1+18446744073709551616-V1-c else W1-V1-c:Nat):=⟨_,rfl⟩
 rw[<-hbr,<-hhi]at e2;have q':(br=0/\hi=0/\lo<=4611686018427387904/\V<=W/\W-V<=4611686018427387904/\lo=W-V)∨(¬(V<=W/\W-V<=4611686018427387904)/\(br=1∨(br=0/\hi≠0/\0<hi)∨(br=0/\hi=0/\4611686018427387904<lo))):=by
  by_cases c0:W0<V0+0
  .rw[aj c0]at hc hlo;subst hc;by_cases c1:W1<V1+1
   .rw[aj c1]at hbr hhi;right;omega
   .rw[ah c1]at hbr hhi;by_cases c2:hi=0
    .omega
    .right;omega
  .rw[ah c0]at hc hlo;subst hc;by_cases c1:W1<V1+0
   .rw[aj c1]at hbr hhi;right;omega
   .rw[ah c1]at hbr hhi;by_cases c2:hi=0
    .omega
    .right;omega
 have hlol:lo<18446744073709551616:=by rw[hlo];split<;>omega
 clear hc hlo hbr hhi hc1 a1 a2 b1 b2 a3 b3 a4 b4;generalize hR:(if V<=W/\W-V<=4611686018427387904 then((W-V:Nat):Int)else 0)=R
 generalize hB:decide (V<=W/\W-V<=4611686018427387904)=B;rcases q' with⟨rfl,rfl,h3,h4,h5,rfl⟩|⟨h4,h5⟩
 .rw[aj ⟨h4,h5⟩]at hR;rw[nE (show V<=W/\W-V<=4611686018427387904 from⟨h4,h5⟩)]at hB;subst hR;subst hB;clear hW hV h4 h5;generalize W-V=lo at *;have h1:¬(4611686018427387904:Int)<lo:=om
  have w1:IntKind.i64.wrap (lo:Int)=lo:=by rw[pU];omega
  go_enter Qu,M8
  go_wp2_with (first|simp only[show(0:Int)=((0:Nat):Int)from rfl,e1]|simp only[e2])
  go_ret2;exact⟨rfl,((bG _ w).alloc (ag _) _).alloc sm _⟩
 .rw[ah h4]at hR;rw[pZ h4]at hB;subst hR;subst hB;clear hW hV h4;rcases h5 with rfl|⟨rfl,h6,h7⟩|⟨rfl,rfl,h6⟩
  .go_enter Qu,M8
   go_wp2_with (first|simp only[show(0:Int)=((0:Nat):Int)from rfl,e1]|simp only[e2])
   go_ret2;exact⟨rfl,((bG _ w).alloc (ag _) _).alloc sm _⟩
  .have h8:((hi:Nat):Int)≠0:=om
   go_enter Qu,M8
   go_wp2_with (first|simp only[show(0:Int)=((0:Nat):Int)from rfl,e1]|simp only[e2])
   go_ret2;exact⟨rfl,((bG _ w).alloc (ag _) _).alloc sm _⟩
  .have h1:(4611686018427387904:Int)<lo:=om
   go_enter Qu,M8
   go_wp2_with (first|simp only[show(0:Int)=((0:Nat):Int)from rfl,e1]|simp only[e2])
   go_ret2;exact⟨rfl,((bG _ w).alloc (ag _) _).alloc sm _⟩
def P5(W:Nat):AV:=.agg [.int .u64 ((W/18446744073709551616:Nat):Int),.int .u64 ((W%18446744073709551616:Nat):Int)]
def yD(h:x<18446744073709551616)(i:y<18446744073709551616)(j:W+x*y<340282366920938463463374607431768211456):PF 215 [P5 W,.int .u64 x,.int .u64 y] (P5 (W+x*y)):=by
 intro w vs _ d
 match vs,d with
 | [a,b,c],d =>
  simp only[bB]at d;obtain⟨k,f,g,_⟩:=d;obtain rfl:=zj k;simp only[bI]at f g;subst f;subst g;refine(Ll W x y h i j w).mono ?_;rintro e w' ⟨rfl,l⟩;exact⟨_,rfl,NO _ _ _ _,dA.below l⟩
 | [],d=>simp[bB]at d
 | [_],d=>simp[bB]at d
 | [_,_],d=>simp[bB]at d
 | _::_::_::_::_,d=>simp[bB]at d
def BV(d:W<340282366920938463463374607431768211456)(f:V<340282366920938463463374607431768211456):PF 216 [P5 W,P5 V] (.tup [.int .i64 (if V<=W/\W-V<=4611686018427387904 then((W-V:Nat):Int)else 0),.bool (decide (V<=W/\W-V<=4611686018427387904))]):=by
 intro w vs _ b
 match vs,b with
 | [a,c],b =>
  simp only[bB]at b;obtain⟨g,h,_⟩:=b;obtain rfl:=zj g;obtain rfl:=zj h;refine(Gp W V d f w).mono ?_;rintro e w' ⟨rfl,i⟩;refine⟨_,rfl,?_,dA.below i⟩;generalize (if V<=W/\W-V<=4611686018427387904 then((W-V:Nat):Int)else 0)=z
  generalize decide (V<=W/\W-V<=4611686018427387904)=β;simp only[bI];exact⟨[.int .i64 z,.bool β],sm,by simp[bB,bI]⟩
 | [],b=>simp[bB]at b
 | [_],b=>simp[bB]at b
 | _::_::_::_,b=>simp[bB]at b

def ft(d:nb a k)(f:nb b k)(n:k<=8000000000)(g:b≠0):PF 82 [ϱ a,ϱ b] (.tup [ϱ (a/b),ϱ (a%b),.bool true]):=by
 intro w vs _ c
 match vs,c with
 | [va,vb],c =>
  simp only[bB,bI]at c;refine(Ip va vb a b w.heap.size w (ag _) c.1 c.2.1 (d.nl om) (f.nl om) g).mono ?_;rintro e w' ⟨h,i,rfl,j,l,m⟩;exact⟨_,rfl,by simp only[bI];exact⟨[h,i,.bool true],rfl,by simp only[bB,bI];exact⟨j,l,trivial,trivial⟩⟩,dA.below m⟩
 | [],c=>simp[bB]at c
 | [_],c=>simp[bB]at c
 | _::_::_::_,c=>simp[bB]at c
def QC:∃k:Nat,271<=k/\k<=300:=⟨300,om,om⟩
noncomputable def KB:Nat:=fP QC
def mR:271<=KB/\KB<=300:=dj QC
noncomputable def PB:Int:=2^KB
def Ie:((2^KB:Nat):Int)=PB:=by unfold PB;rw[JC];rfl
def Gf(h:-PB<z/\z<PB):nb z KB:=by
 have:=Ie;unfold nb;generalize (2:Nat)^KB=x at *;omega
def nb.P(h:nb z KB):-PB<z/\z<PB:=by
 have:=Ie;unfold nb at h;generalize (2:Nat)^KB=x at *;omega
def Qz(h:0<=z/\z<PB):z.toNat<2^KB:=by
 have:=Ie;generalize (2:Nat)^KB=x at *;omega

end Go.Proofs.YtdobfmlmenaajaaGreatDoor
