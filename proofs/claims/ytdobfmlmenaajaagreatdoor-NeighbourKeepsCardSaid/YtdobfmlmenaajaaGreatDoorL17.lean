/-
  Lemmas for NeighbourKeeps.
-/
import Derived.Test.YtdobfmlmenaajaaGreatDoorL14
import Derived.Test.YtdobfmlmenaajaaGreatDoorL03
namespace Go.Proofs.YtdobfmlmenaajaaGreatDoor
open Go.RowKit Tryz
open _root_.Int renaming natCast_nonneg→di,natCast_ediv→tq
open Lib renaming hid→ab
open _root_.List renaming replicate→bV,getD→cK
open _root_.Nat renaming le_refl→af,mul_comm→av,mul_le_mul_right→ay,mul_assoc→aZ,eq_zero_or_pos→bC,le_trans→bI,pow_succ→bM,mul_add→bU,pow_le_pow_right→cf,succ_mul→ck,add_zero→cn,mod_lt→dp,div_add_mod→dz,add_mul→dO,mod_eq_of_lt→eh,div_eq_of_lt→ei,pow_add→fE,two_pow_pos→jb,mul_lt_mul_of_pos_right→kB,add_comm→k9,zero_mul→ug,div_lt_iff_lt_mul→vE
open _root_.Or renaming inr→aK,inl→bn
open Tryz renaming prog→ah
open Value renaming int→c8
set_option maxHeartbeats 6400000
set_option maxRecDepth 4096
set_option linter.all false
variable{l ps qq qs rs vs ys:List Nat}{B B1 V X bor car g i j m n s u v x:Nat}{f xs y:Nat->Nat}{w w0 w1 w2 wr:World}
abbrev lf(l:List Nat):Nat->Nat:=fun i=>l.getD i 0
theorem Ho{ps:Nat->Nat}(h:vF i ps+car*4294967296^i=vF i xs*2^s):vF i ps+(car+xs i*2^s)%4294967296*4294967296^i+(car+xs i*2^s)/4294967296*4294967296^(i+1)=vF (i+1) xs*2^s:=by
 have e:=Nat.mod_add_div (car+xs i*2^s) 4294967296;simp only[vF,bM];rw[dO,<-h];generalize (car+xs i*2^s)%4294967296=a at *;generalize (car+xs i*2^s)/4294967296=b at *;generalize 4294967296^i=p at *;have c:(a+4294967296*b)*p=(car+xs i*2^s)*p:=by rw[e]
 rw[dO,dO]at c;have d:b*(p*4294967296)=4294967296*b*p:=by rw[av p,<-aZ,av b]
 have f:xs i*p*2^s=xs i*2^s*p:=by rw[aZ,av p,<-aZ]
 omega
theorem Am:vF i (lf (ps.set i x))=vF i (lf ps):=je fun j a=>fy om
theorem pP(h:i<ps.length):lf (ps.set i x) i=x:=by simp[lf,cK,h]
theorem Md{a:Nat}(c:a<2^s):a ||| x*2^s=a+x*2^s:=by
 have h:=Nat.shiftLeft_add_eq_or_of_lt (i:=s) (b:=a) c x;rw[Nat.shiftLeft_eq]at h;rw[Nat.or_comm,<-h,k9]
theorem LA.start(w:World)(n:Nat):LA w.heap.size w (w.alloc (.cells (df [] n) 136)) w.heap.size n (bV n 0):=by
 obtain⟨a,b⟩:=gQ.start w n;refine⟨a,af _,sm,fun x c=>by rw[(List.mem_replicate.1 c).2];omega,_,b,fun j d=>?_⟩
 rw[lK _ 0 j (by simp;omega)];simp
theorem rb(A:Option Addr)(n c s L:Nat)(xs:List Nat)(w:World)(hn:n<=268435456)(hs:s<32)(hL:L<=w.heap.size)(hx:cj w L A n xs) :
  Calls ah 199 #[.slice A n c,.int .i64 s] w fun e w'=>∃c' ps,e=.returned (.slice (some ⟨w.heap.size,0,none⟩) (n+1:Nat) c')/\n+1<=c'/\LA w.heap.size w w' w.heap.size (n+1) ps/\vF (n+1) (lf ps)=vF n (lf xs)*2^s:=by
 have hmk:=AP (n+1) om;rw[show((n+1:Nat):Int)=(n:Int)+1 by omega]at hmk
 have HX:=ab hx;clear hx
 go_enter func199,ntmps199
 go_wp2;clear hmk;have hs0:¬(s:Int)<0:=om
 have hmin:min s 64=s:=om
 go_loopw [6,15] (fun cv iv wr=>∃(i car:Nat) (ps:List Nat),i<=n/\iv=.int .i64 i/\cv=.int .u64 car/\car<2^s/\Hid (LA w.heap.size w wr w.heap.size (n+1) ps)/\Hid (vF i (lf ps)+car*4294967296^i=vF i (lf xs)*2^s)) (fun _ iv _=>n-(intOf iv).toNat)
 case atStart=>exact⟨0,0,bV (n+1) 0,om,rfl,rfl,jb s,ab (LA.start w (n+1)),ab (by simp[vF])⟩
 case round =>
  obtain⟨i,car,ps,hi,rfl,rfl,hcar,HF,HS⟩:=hrel;by_cases hin:i<n
  ·obtain⟨ad,x,rfl,hab,hxx,hx4,hcx⟩:=(HX.out.below HF.out.1 hL).at_ (k:=i) om;have HXX:=ab hxx;clear hxx;have hin':(i:Int)<n:=om
   have hin2:(i:Int)<(n:Int)+1:=om
   have hi0:(0:Int)<=i:=om
   obtain⟨hcp,hfp⟩:=HF.out.at_ (k:=i) om;generalize ps.getD i 0=pp at hcp;have hz:x*2^s<=4294967295*2^s/\(2:Nat)^s<=2147483648:=⟨ay _ om,cf om (om:s<=31)⟩
   have HO:Hid (bits .or .u64 (car:Int) (IntKind.u64.wrap ((x:Int)*2^s))=((car+x*2^s:Nat):Int)):=ab (by
    have e1:IntKind.u64.wrap ((x:Int)*2^s)=((x*2^s:Nat):Int):=by
     rw[show((x:Int)*2^s)=((x*2^s:Nat):Int) by rw[Int.natCast_mul,Int.natCast_pow];rfl,IntKind.wrap_u64]
     generalize 2^s=t at *;generalize x*t=z at *;omega
    rw[e1,u64_or_nat _ _ (by generalize 2^s=t at *;omega) (by generalize 2^s=t at *;generalize x*t=z at *;omega),Md hcar])
   have hst:=Ho HS.out;rw[show lf xs i=x from HXX.out]at hst;have hc2:(car+x*2^s)/4294967296<2^s:=by
    rw[vE om];generalize 2^s=t at *;generalize x*t=z at *;omega
   have HST:=ab hst;clear hst;have HZ:=ab hz;clear hz;go_wp2
   go_roundw
   case rel =>
    rw[HO.out];have hput:=HF.out.put (k:=i) (x:=(car+x*2^s)%4294967296) om om;refine⟨i+1,(car+x*2^s)/4294967296,_,om,by go_num,by go_num,hc2,ab (by simpa using hput),ab ?_⟩
    rw[<-HST.out];simp only[vF];rw[Am,pP (by rw[HF.out.2.2.1];omega)]
   case measure=>simp[intOf];omega
  ·obtain rfl:i=n:=om
   obtain⟨hcp,hfp⟩:=HF.out.at_ (k:=i) om;generalize ps.getD i 0=pp at hcp;have hc4:(2:Nat)^s<=2147483648:=cf om (om:s<=31)
   have hcar4:car<4294967296:=om
   have HC4:=ab hc4;clear hc4;have hin2:(i:Int)<(i:Int)+1:=om
   have hput:=HF.out.put (k:=i) (x:=car) om hcar4;have HP:=ab hput;clear hput;go_wp2;go_ret;refine⟨i+1,by go_num,af _,ps.set i car,by simpa using HP.out,?_⟩
   rw[<-HS.out];simp only[vF];rw[Am,pP (by rw[HF.out.2.2.1];omega)]
theorem Hm{y:Nat}(c:x<4294967296)(f:s<32):2^s*((x+y*4294967296)/2^s%4294967296)+x%2^s=x+(y%2^s)*4294967296:=by
 have a:2^s*2^(32-s)=4294967296:=by rw[<-fE,(om:s+(32-s)=32)]
 have b:=jb s;have g:=jb (32-s);generalize 2^s=P at *;generalize 2^(32-s)=Q at *;have d:(x+y*4294967296)/P=x/P+y*Q:=by
  rw[<-a,show y*(P*Q)=P*(y*Q) by rw[<-aZ,av y,aZ],Nat.add_mul_div_left _ _ b]
 have e:y*Q=4294967296*(y/P)+y%P*Q:=by
  have h:=dz y P;rw[<-a];have:(P*(y/P)+y%P)*Q=y*Q:=by rw[h]
  rw[<-this,dO];congr 1;rw[aZ,av (y/P),<-aZ]
 have i:x/P<Q:=by rw[vE b,av,a];exact c
 have j:y%P*Q+Q<=4294967296:=by
  have h:=ay Q (dp y b);rw[ck,a]at h;exact h
 rw[d,e,(om:x/P+(4294967296*(y/P)+y%P*Q)=(x/P+y%P*Q)+4294967296*(y/P)),Nat.add_mul_mod_self_left,eh om,bU]
 have k:=dz x P;have l:P*(y%P*Q)=y%P*4294967296:=by rw[<-a,<-aZ,<-aZ,av P]
 omega
theorem Cb{x:Nat->Nat}(h:2^s*vF i y+x 0%2^s=vF i x+x i%2^s*4294967296^i)(a:x i<4294967296)(b:s<32)(c:y i=(x i+x (i+1)*4294967296)/2^s%4294967296):2^s*vF (i+1) y+x 0%2^s=vF (i+1) x+x (i+1)%2^s*4294967296^(i+1):=by
 have e:=Hm (x:=x i) (y:=x (i+1)) a b;rw[<-c]at e;simp only[vF,bM];generalize 4294967296^i=p at *;have d:(2^s*y i+x i%2^s)*p=(x i+x (i+1)%2^s*4294967296)*p:=by rw[e]
 rw[dO,dO]at d;rw[bU,<-aZ (2^s) (y i),show x (i+1)%2^s*(p*4294967296)=x (i+1)%2^s*4294967296*p by rw[aZ,av p]]
 omega
theorem DU(h:l.length<=i):lf l i=0:=by simp[lf,cK,List.getElem?_eq_none h]
theorem shrI(z s:Nat):(z:Int)/2^s%4294967296=((z/2^s%4294967296:Nat):Int):=by
 rw[Int.natCast_emod,tq,Int.natCast_pow];rfl
theorem sE(h:mp l)(i:Nat):lf l i<4294967296:=h.getD i
theorem Hn{x:Nat->Nat}(h:2^s*vF n y+x 0%2^s=vF n x+x n%2^s*4294967296^n)(b:x n=0):vF n y=vF n x/2^s:=by
 have a:=jb s;have c:=dp (x 0) a;rw[b,Nat.zero_mod,ug,cn]at h;rw[<-h,Nat.mul_add_div a,ei c];rfl
theorem wJ(B:Nat)(w0 w:World)(g n c s:Nat)(xs:List Nat)(hn:n<=268435456)(hs:s<32)(h:LA B w0 w g n xs)(P:World->Prop)(hPc:∀(wr:World) (q:Nat) (u:Value),P wr->P (wr.setCell ⟨g,q,none⟩ u))(hP:P w) :
  Calls ah 201 #[.slice (some ⟨g,0,none⟩) n c,.int .i64 s] w fun e w'=>∃ps,e=.returned (.tuple #[])/\LA B w0 w' g n ps/\P w'/\vF n (lf ps)=vF n (lf xs)/2^s:=by
 have hxl:=h.2.2.1;have HL:=ab h.2.2.2.1;have HA:=ab h;clear h;have HPC:=ab hPc;clear hPc;have HP0:=ab hP;clear hP;have hs0:¬(s:Int)<0:=om
 have hmin:min s 64=s:=om
 go_enter func201,ntmps201
 go_wp2
 go_loopw [8] (fun iv wr=>∃(i:Nat) (ps:List Nat),i<=n/\iv=.int .i64 i/\Hid (LA B w0 wr g n ps)/\Hid (P wr)/\Hid (∀k,i<=k->lf ps k=lf xs k)/\Hid (2^s*vF i (lf ps)+lf xs 0%2^s=vF i (lf xs)+lf xs i%2^s*4294967296^i)) (fun iv _=>n-(intOf iv).toNat)
 case atStart=>exact⟨0,xs,om,rfl,HA,HP0,ab fun _ _=>rfl,ab (by simp[vF])⟩
 case round =>
  clear HA;obtain⟨i,ps,hi,rfl,HF,HPP,HK,HS⟩:=hrel;by_cases hin:i<n
  ·obtain⟨hcp,hfp⟩:=HF.out.at_ (k:=i) hin;rw[show ps.getD i 0=lf xs i from HK.out i (af _)]at hcp;have hx4:=sE HL.out i;have hin':(i:Int)<n:=om
   have hi0:(0:Int)<=i:=om
   by_cases hi1:i+1<n
   ·obtain⟨hcq,hfq⟩:=HF.out.at_ (k:=i+1) hi1;rw[show ps.getD (i+1) 0=lf xs (i+1)from HK.out (i+1) om]at hcq;have hy4:=sE HL.out (i+1);have hsp:=Cb (y:=fun k=>if k=i then(lf xs i+lf xs (i+1)*4294967296)/2^s%4294967296 else lf ps k) (x:=lf xs) (i:=i) (s:=s) (by rw[<-HS.out];congr 2;exact je fun j hj=>if_neg om) hx4 hs (if_pos rfl)
    generalize hxx:lf xs i=x at hcp hx4 hsp;generalize hyy:lf xs (i+1)=y at hcq hy4 hsp;have HO:Hid (bits .or .u64 (x:Int) ((y:Int)*4294967296)/2^s%4294967296=(((x+y*4294967296)/2^s%4294967296:Nat):Int)):=ab (by
     rw[show(y:Int)*4294967296=((y*4294967296:Nat):Int) by omega,u64_or_nat _ _ om om,DI hx4,shrI])
    have HSP:=ab hsp;clear hsp;have hi1':(i:Int)+1<n:=om
    go_wp2
    go_roundw
    case rel =>
     rw[HO.out];have hput:=HF.out.put (k:=i) (x:=(x+y*4294967296)/2^s%4294967296) om om;refine⟨i+1,_,om,by go_num,ab hput,ab (HPC.out _ _ _ HPP.out),ab fun k hk=>?_,ab ?_⟩
     ·rw[lf,fy om];exact HK.out k om
     ·rw[hyy,<-HSP.out];congr 2;simp only[vF,if_true];rw[Am,pP (by rw[HF.out.2.2.1];omega)]
      congr 1;exact je fun j hj=>(if_neg om).symm
    case measure=>simp[intOf];omega
   ·have hy0:lf xs (i+1)=0:=DU om;have hsp:=Cb (y:=fun k=>if k=i then lf xs i/2^s%4294967296 else lf ps k) (x:=lf xs) (i:=i) (s:=s) (by rw[<-HS.out];congr 2;exact je fun j hj=>if_neg om) hx4 hs (by rw[if_pos rfl,hy0,ug,cn])
    generalize hxx:lf xs i=x at hcp hx4 hsp;have HO:Hid ((x:Int)/2^s%4294967296=((x/2^s%4294967296:Nat):Int)):=ab (shrI x s);have HSP:=ab hsp;clear hsp;have hi1':¬(i:Int)+1<n:=om
    go_wp2
    go_roundw
    case rel =>
     rw[HO.out];have hput:=HF.out.put (k:=i) (x:=x/2^s%4294967296) om om;refine⟨i+1,_,om,by go_num,ab hput,ab (HPC.out _ _ _ HPP.out),ab fun k hk=>?_,ab ?_⟩
     ·rw[lf,fy om];exact HK.out k om
     ·rw[<-HSP.out];congr 2;simp only[vF,if_true];rw[Am,pP (by rw[HF.out.2.2.1];omega)]
      congr 1;exact je fun j hj=>(if_neg om).symm
    case measure=>simp[intOf];omega
  ·obtain rfl:i=n:=om
   have HE:=ab (Hn HS.out (DU om));go_wp2;exact bodyPost_end (v:=.tuple #[]) (by simp[results,results201]) rfl ⟨ps,rfl,HF.out,HPP.out,HE.out⟩

theorem zi(x bo y:Nat)(a:x<4294967296)(b:bo<=1)(c:y<4294967296) :
  IntKind.u64.wrap (IntKind.u64.wrap ((x:Int)-y)-bo)=((x+18446744073709551616-y-bo)%18446744073709551616:Nat):=by
 rw[IntKind.wrap_u64,IntKind.wrap_u64];omega
theorem LA.other{gv:Nat}(h:LA B w wr gv n ys)(b:B<=g)(a:gv≠g)(k:Nat)(u:Value):LA B w (wr.setCell ⟨g,k,none⟩ u) gv n ys:=by
 obtain⟨c,d,e,f,cs,i,j⟩:=h;exact⟨c.setCell (by exact b) _,d,e,f,cs,i.other a,j⟩
theorem LA.still{wr':World}(h:LA B w wr g n ps)(a:dJ wr wr'):LA B w wr' g n ps:=by
 obtain⟨b,c,d,e,cs,f,i⟩:=h;exact⟨b.trans (a.below B),c,d,e,cs,by unfold fB at *;rw[a.heap];exact f,i⟩
theorem vS(h:f n=0):vF (n+1) f=vF n f:=by simp only[vF,h,ug,cn]
theorem Fp{z:Nat}(h:vF i (frm (lf qs) j)+g*vF i (lf ys)=vF i (frm (lf ps) j)+(bor+car)*4294967296^i)(d:bor<=1)(e:u<4294967296)
  (b:lf ps (j+i)=u) (f:lf ys i=v) (k:g*v=z) (l:j+i<qs.length) :
  (u+18446744073709551616-(car+z)%4294967296-bor)%18446744073709551616/9223372036854775808<=1 /\
  vF (i+1) (frm (lf (qs.set (j+i) ((u+18446744073709551616-(car+z)%4294967296-bor)%4294967296))) j)+g*vF (i+1) (lf ys) =
   vF (i+1) (frm (lf ps) j)+((u+18446744073709551616-(car+z)%4294967296-bor)%18446744073709551616/9223372036854775808+(car+z)/4294967296)*4294967296^(i+1):=by
 subst k f;have a:frm (lf ps) j i=u:=b;have c:=Mp (q':=frm (lf (qs.set (j+i) ((frm (lf ps) j i+18446744073709551616-(car+g*lf ys i)%4294967296-bor)%4294967296))) j) h d (by rw[a];exact e) (fun m n=>by
  unfold frm;exact fy om) (by
  generalize (frm (lf ps) j i+18446744073709551616-(car+g*lf ys i)%4294967296-bor)%4294967296=x;unfold frm;exact pP l)
 rw[a]at c;exact⟨c.1,c.2.2⟩
theorem J6{W:Nat}(h:vF n (frm (lf qs) j)+g*vF n (lf ys)=vF n (frm (lf ps) j)+(bor+car)*4294967296^n)(e:bor<=1)(f:u<4294967296)
  (a:lf ps (j+n)=u) (b:lf ys n=0) (c:car<4294967296) (i:j+n<qs.length) (k:W=(u+18446744073709551616-car-bor)%18446744073709551616) {m:Nat} (l:n+1=m) :
  W/9223372036854775808<=1/\vF m (frm (lf (qs.set (j+n) (W%4294967296))) j)+g*vF n (lf ys)=vF m (frm (lf ps) j)+W/9223372036854775808*4294967296^m:=by
 subst l;have d:=Fp h e f a b (Nat.mul_zero g) i;rw[show car+0=car from rfl,eh c,ei c,cn,<-k,vS b,show(u+18446744073709551616-car-bor)%4294967296=W%4294967296 by omega]at d
 exact d
theorem Fq(h:vF i (frm (lf rs) j)+car*4294967296^i=vF i (frm (lf qq) j)+vF i (lf ys))(c:lf qq (j+i)=u)(d:lf ys i=v)(e:j+i<rs.length) :
  vF (i+1) (frm (lf (rs.set (j+i) ((car+(u+v))%4294967296))) j)+(car+(u+v))/4294967296*4294967296^(i+1)=vF (i+1) (frm (lf qq) j)+vF (i+1) (lf ys):=by
 subst d;have a:frm (lf qq) j i=u:=c;have b:=Ms (q':=frm (lf (rs.set (j+i) ((car+(frm (lf qq) j i+lf ys i))%4294967296))) j) h (fun m f=>by
  unfold frm;exact fy om) (by
  generalize (car+(frm (lf qq) j i+lf ys i))%4294967296=x;unfold frm;exact pP e)
 rw[a]at b;exact b
theorem Kb(h:vF n (frm (lf rs) j)+car*4294967296^n=vF n (frm (lf qq) j)+vF n (lf ys))(c:lf qq (j+n)=u)(a:lf ys n=0)(f:car<4294967296)(d:j+n<rs.length){m:Nat}(e:n+1=m) :
  vF m (frm (lf (rs.set (j+n) ((u+car)%4294967296))) j)+(u+car)/4294967296*4294967296^m=vF m (frm (lf qq) j)+vF n (lf ys):=by
 subst e;have b:=Fq h c a d;rw[cn u,k9 car u,vS a]at b;exact b
theorem xJ(B:Nat)(w0 w:World)(g gv N M j k c1 c2:Nat)(ps ys:List Nat)(hN:N<=268435457)(hjk:j+k+3<=N)(hkM:k+3<=M)(hne:gv≠g)(hp:LA B w0 w g N ps)(hy:LA B w0 w gv M ys)
  (hv0:0<lf ys (k+1)) (hvt:lf ys (k+2)=0) (hU:vF (k+3) (frm (lf ps) j)<vF (k+2) (lf ys)*4294967296) (P:World->Prop) (hPs:∀wr wr',dJ wr wr'->P wr->P wr') (hPc:∀(wr:World) (q:Nat) (u:Value),P wr->P (wr.setCell ⟨g,q,none⟩ u)) (hP:P w) :
  Calls ah 200 #[.slice (some ⟨g,j,none⟩) (k+3) c1,.slice (some ⟨gv,0,none⟩) (k+2) c2] w fun e w'=>∃qs,e=.returned (.int .u32 ((vF (k+3) (frm (lf ps) j)/vF (k+2) (lf ys):Nat):Int))/\LA B w0 w' g N qs/\LA B w0 w' gv M ys/\P w' /\
   (∀t,t<j∨j+k+3<=t->lf qs t=lf ps t)/\vF (k+3) (frm (lf qs) j)=vF (k+3) (frm (lf ps) j)%vF (k+2) (lf ys):=by
 have hlp:=sE hp.2.2.2.1;have hly:=sE hy.2.2.2.1;have hBg:=hp.2.1;have HPS:=ab hPs;clear hPs;have HPC:=ab hPc;clear hPc;have HP0:=ab hP;clear hP;obtain⟨a2,f2⟩:=hp.at_ (k:=j+(k+2)) om;obtain⟨a1,f1⟩:=hp.at_ (k:=j+(k+1)) om;obtain⟨a0,f0⟩:=hp.at_ (k:=j+k) om;obtain⟨d1,e1⟩:=hy.at_ (k:=k+1) om;obtain⟨d0,e0⟩:=hy.at_ (k:=k) om;have x2:=hlp (j+(k+2));have x1:=hlp (j+(k+1));have x0:=hlp (j+k);have y1:=hly (k+1);have y0:=hly k;have HK:=ab (KG.init (k:=k) (u:=frm (lf ps) j) (v:=lf ys) hv0 fun i _=>hlp _);have HFI:=ab (Ig (k:=k) (u:=frm (lf ps) j) (v:=lf ys) (fun i _=>hly i) hU);have HHP:=ab hp;clear hp;have HHY:=ab hy;clear hy;have HU:=ab hU;clear hU;have HLP:=ab hlp;clear hlp;have HLY:=ab hly;clear hly;have HVT:=ab hvt;clear hvt;change w.cell? ⟨g,j+(k+2),none⟩=some (.int .u32 (lf ps (j+(k+2)):Nat))at a2;change w.cell? ⟨g,j+(k+1),none⟩=some (.int .u32 (lf ps (j+(k+1)):Nat))at a1;change w.cell? ⟨g,j+k,none⟩=some (.int .u32 (lf ps (j+k):Nat))at a0;change w.cell? ⟨gv,k+1,none⟩=some (.int .u32 (lf ys (k+1):Nat))at d1;change w.cell? ⟨gv,k,none⟩=some (.int .u32 (lf ys k:Nat))at d0;change Hid (KG k (frm (lf ps) j) (lf ys) ((lf ps (j+(k+2))*4294967296+lf ps (j+(k+1)))/lf ys (k+1)) ((lf ps (j+(k+2))*4294967296+lf ps (j+(k+1)))%lf ys (k+1)))at HK;generalize hX2:lf ps (j+(k+2))=X2 at a2 x2 HK;generalize hX1:lf ps (j+(k+1))=X1 at a1 x1 HK;generalize hX0:lf ps (j+k)=X0 at a0 x0;generalize hY1:lf ys (k+1)=Y1 at d1 y1 hv0 HK;generalize hY0:lf ys k=Y0 at d0 y0;have HX2:=ab hX2;clear hX2;have HX1:=ab hX1;clear hX1;have HX0:=ab hX0;clear hX0;have HY1:=ab hY1;clear hY1;have HY0:=ab hY0;clear hY0;have hv0':(Y1:Int)≠0:=om
 have hv0n:Y1≠0:=om
 have HO:=ab (pG x2 x1);have ST:=ab (show ∀wr,dJ w wr->(wr.cell? ⟨g,j+(k+2),none⟩=some (.int .u32 X2)/\wr.cell? ⟨g,j+k,none⟩=some (.int .u32 X0))/\wr.cell? ⟨gv,k+1,none⟩=some (.int .u32 Y1)/\wr.cell? ⟨gv,k,none⟩=some (.int .u32 Y0)from fun wr h=>⟨⟨(h.cell _).trans a2,(h.cell _).trans a0⟩,(h.cell _).trans d1,(h.cell _).trans d0⟩)
 go_enter func200,ntmps200
 go_wp2
 go_quiet (fail)
 go_wp2
 go_quiet (fail)
 clear a2 a1 a0 d1 d0 f2 f1 f0 e1 e0;go_wp2
 go_loopw [7,8] (fun gvv rvv wr=>∃(G R:Nat),gvv=.int .u64 G/\rvv=.int .u64 R/\R<4294967296/\G<18446744073709551616/\Hid (dJ w wr)/\Hid (KG k (frm (lf ps) j) (lf ys) G R)) (fun gvv _ _=>(intOf gvv).toNat)
 case atStart =>
  have hh:X2*4294967296+X1<18446744073709551616:=om
  have hq:=Nat.div_le_self (X2*4294967296+X1) Y1;have hr:=dp (X2*4294967296+X1) hv0;refine⟨_,_,?_,?_,Nat.lt_trans hr y1,Nat.lt_of_le_of_lt hq hh,ab (by repeat' (first|exact dJ.refl _|apply dJ.more)),HK⟩
  ·rw[HO.out,Int.tdiv_eq_ediv_of_nonneg (di _),<-tq,IntKind.wrap_u64];generalize (X2*4294967296+X1)/Y1=q at *;congr 1;omega
  ·rw[HO.out,Int.tmod_eq_emod_of_nonneg (di _),Int.natCast_emod]
 case round =>
  obtain⟨G,R,rfl,rfl,hR,hG,HS,HKG⟩:=hrel;obtain⟨⟨a2,a0⟩,d1,d0⟩:=ST.out _ HS.out;clear HO HK x1 HX1;have hO2:=pG hR x0;obtain⟨Z,hZ⟩:∃Z,G*Y0=Z:=⟨_,rfl⟩;have hZi:(G:Int)*(Y0:Int)=(Z:Int):=by rw[<-hZ];simp
  have hZl:G<4294967296->Z<=18446744065119617025:=fun h=>hZ▸mO h y0;have hst:4294967296<=G∨R*4294967296+X0<Z->0<G/\Hid (KG k (frm (lf ps) j) (lf ys) (G-1) (R+Y1)):=fun h=>by
   have:=HKG.out.step (fun i _=>HLP.out _) HU.out (by rw[HY0.out,show frm (lf ps) j k=lf ps (j+k)from rfl,HX0.out,hZ];exact h)
   rw[HY1.out]at this;exact⟨this.1,ab this.2⟩
  have hbr:0<G->Hid (KG k (frm (lf ps) j) (lf ys) (G-1) (R+Y1))->4294967296<=R+Y1->Hid (G-1<4294967296/\(G-1)*vF (k+2) (lf ys)<vF (k+3) (frm (lf ps) j)+vF (k+2) (lf ys)/\∃r,KG k (frm (lf ps) j) (lf ys) (G-1) r):=fun h0 HK2 hr=>by
   have hF:=HK2.out.g_lt HFI.out (by rw[show frm (lf ps) j (k+1)=lf ps (j+(k+1))from rfl];exact HLP.out _) hr
   exact ab ⟨hF,HK2.out.last (fun i _=>HLY.out i) (by rw[HY1.out];exact hv0) hF (KG.big (HLY.out k) hF hr),_,HK2.out⟩
  have hen:G<4294967296->Z<=R*4294967296+X0->Hid (G<4294967296/\G*vF (k+2) (lf ys)<vF (k+3) (frm (lf ps) j)+vF (k+2) (lf ys)/\∃r,KG k (frm (lf ps) j) (lf ys) G r):=fun h0 h1 =>
   ab ⟨h0,HKG.out.last (fun i _=>HLY.out i) (by rw[HY1.out];exact hv0) h0 (by rw[HY0.out,show frm (lf ps) j k=lf ps (j+k)from rfl,HX0.out,hZ];exact h1),_,HKG.out⟩
  have HST:=ab hst;clear hst;have HBR:=ab hbr;clear hbr;have HEN:=ab hen;clear hen;have HZL:=ab hZl;clear hZl;clear hZ;rcases (show(4294967296<=G/\R+Y1<4294967296)∨(G<4294967296/\R*4294967296+X0<Z/\R+Y1<4294967296)∨(4294967296<=G/\4294967296<=R+Y1)∨(G<4294967296/\R*4294967296+X0<Z/\4294967296<=R+Y1)∨(G<4294967296/\Z<=R*4294967296+X0)from by omega)with h|h|h|h|h
  ·obtain⟨hbig,hr⟩:=h;obtain⟨hg0,HK2⟩:=HST.out (bn hbig);have hs1:¬(G:Int)/4294967296=0:=om
   have hs2:((G:Int)/4294967296==0)=false:=by simpa using hs1
   have hs3:((G:Int)/4294967296 != 0)=true:=by simpa using hs1
   have hr1:((R:Int)+Y1)/4294967296=0:=om
   go_wp2
   go_quiet (fail)
   go_wp2
   go_roundw
   case rel=>exact⟨G-1,R+Y1,by go_num,by go_num,hr,om,ab (by repeat' (first|exact HS.out|apply dJ.more)),HK2⟩
   case measure=>simp[intOf];omega
  ·obtain⟨hsm,hlt,hr⟩:=h;obtain⟨hg0,HK2⟩:=HST.out (aK hlt);have hZl:=HZL.out hsm;have hs1:(G:Int)/4294967296=0:=om
   have hs2:((G:Int)/4294967296==0)=true:=by simpa using hs1
   have hs3:((G:Int)/4294967296 != 0)=false:=by simpa using hs1
   have hc1:bits .or .u64 ((R:Int)*4294967296) (X0:Int)<(Z:Int):=by rw[hO2];omega
   have hc2:decide (bits .or .u64 ((R:Int)*4294967296) (X0:Int)<(Z:Int))=true:=by simpa using hc1
   have hr1:((R:Int)+Y1)/4294967296=0:=om
   clear hO2;go_wp2
   go_quiet (fail)
   go_wp2
   go_roundw
   case rel=>exact⟨G-1,R+Y1,by go_num,by go_num,hr,om,ab (by repeat' (first|exact HS.out|apply dJ.more)),HK2⟩
   case measure=>simp[intOf];omega
  all_goals first
   | (obtain⟨hbig,hr⟩:4294967296<=G/\4294967296<=R+Y1:=h
      obtain⟨hg0,HK2⟩:=HST.out (bn hbig);have HE:=HBR.out hg0 HK2 hr;have hs1:¬(G:Int)/4294967296=0:=om
      have hs2:((G:Int)/4294967296==0)=false:=by simpa using hs1
      have hs3:((G:Int)/4294967296 != 0)=true:=by simpa using hs1
      have hr1:¬((R:Int)+Y1)/4294967296=0:=om
      have hw:IntKind.u64.wrap ((G:Int)-1)=((G-1:Nat):Int):=by rw[IntKind.wrap_u64];omega
      clear hO2 HK2)
   | (obtain⟨hsm,hlt,hr⟩:G<4294967296/\R*4294967296+X0<Z/\4294967296<=R+Y1:=h
      obtain⟨hg0,HK2⟩:=HST.out (aK hlt);have HE:=HBR.out hg0 HK2 hr;have hZl:=HZL.out hsm;have hs1:(G:Int)/4294967296=0:=om
      have hs2:((G:Int)/4294967296==0)=true:=by simpa using hs1
      have hs3:((G:Int)/4294967296 != 0)=false:=by simpa using hs1
      have hc1:bits .or .u64 ((R:Int)*4294967296) (X0:Int)<(Z:Int):=by rw[hO2];omega
      have hc2:decide (bits .or .u64 ((R:Int)*4294967296) (X0:Int)<(Z:Int))=true:=by simpa using hc1
      have hr1:¬((R:Int)+Y1)/4294967296=0:=om
      have hw:IntKind.u64.wrap ((G:Int)-1)=((G-1:Nat):Int):=by rw[IntKind.wrap_u64];omega
      clear hO2 HK2)
   | (obtain⟨hsm,hge⟩:G<4294967296/\Z<=R*4294967296+X0:=h
      have HE:=HEN.out hsm hge;have hZl:=HZL.out hsm;have hs1:(G:Int)/4294967296=0:=om
      have hs2:((G:Int)/4294967296==0)=true:=by simpa using hs1
      have hs3:((G:Int)/4294967296 != 0)=false:=by simpa using hs1
      have hc1:¬bits .or .u64 ((R:Int)*4294967296) (X0:Int)<(Z:Int):=by rw[hO2];omega
      have hc2:decide (bits .or .u64 ((R:Int)*4294967296) (X0:Int)<(Z:Int))=false:=by simpa using hc1
      obtain⟨F,hF⟩:∃F,F=G:=⟨_,rfl⟩;subst hF;clear hO2)
  all_goals go_wp2
  all_goals go_quiet (fail)
  all_goals go_wp2
  all_goals try (have:=hg0;generalize G-1=F at HE ⊢)
  all_goals (
   clear HST HBR HEN HZL hZi;obtain⟨hF4,hFV,⟨rr,hKF⟩⟩:=HE.out;have HFV:=ab hFV;clear hFV;have HKF:=ab hKF;clear hKF
   go_loopw [9,10,83] (fun cv bv iv wr=>∃(i car bor:Nat) (qs:List Nat),i<=k+2/\iv=.int .i64 i/\cv=.int .u64 car/\bv=.int .u64 bor/\car<4294967296/\bor<=1/\Hid (LA B w0 wr g N qs)/\Hid (LA B w0 wr gv M ys)/\Hid (P wr)/\Hid (∀t,t<j∨j+i<=t->lf qs t=lf ps t)/\Hid (vF i (frm (lf qs) j)+F*vF i (lf ys)=vF i (frm (lf ps) j)+(bor+car)*4294967296^i)) (fun _ _ iv _=>(k+2)-(intOf iv).toNat))
  all_goals try exact⟨0,0,0,ps,om,rfl,rfl,rfl,om,om,ab (HHP.out.still (by repeat' (first|exact HS.out|apply dJ.more))),ab (HHY.out.still (by repeat' (first|exact HS.out|apply dJ.more))),ab (HPS.out w _ (by repeat' (first|exact HS.out|apply dJ.more)) HP0.out),ab (fun _ _=>rfl),ab (by simp[vF])⟩
  all_goals (
   clear a2 a0 d1 d0;obtain⟨i,car,bor,qs,hi,rfl,rfl,rfl,hcar,hbor,HA,HB,HPP,HQ,HV⟩:=hrel;by_cases hin:i<k+2
   ·obtain⟨hcu,hfu⟩:=HA.out.at_ (k:=j+i) om;obtain⟨hcv,hfv⟩:=HB.out.at_ (k:=i) om;have hu4:=HLP.out (j+i);have hv4:=HLY.out i;rw[show qs.getD (j+i) 0=lf ps (j+i)from HQ.out _ (aK (af _))]at hcu;change _=some (c8 .u32 (lf ys i:Nat))at hcv;generalize hu:lf ps (j+i)=u at hcu hu4;generalize hv:lf ys i=v at hcv hv4;have hz4:=mO hF4 hv4;obtain⟨z,hz⟩:∃z,F*v=z:=⟨_,rfl⟩;rw[hz]at hz4;have hzi:(F:Int)*(v:Int)=(z:Int):=by rw[<-hz];simp
    have HSB:=ab (Fp HV.out hbor hu4 hu hv hz (by rw[HA.out.2.2.1];omega))
    clear hz hu hv;have HW:=ab (show IntKind.u64.wrap (IntKind.u64.wrap ((u:Int)-((car:Int)+z)%4294967296)-bor)=((u+18446744073709551616-(car+z)%4294967296-bor)%18446744073709551616:Nat) by
     rw[show((car:Int)+z)%4294967296=(((car+z)%4294967296:Nat):Int) by omega]
     exact zi u bor ((car+z)%4294967296) hu4 hbor om)
    have hin':(i:Int)<(k:Int)+2:=om
    have hi0:(0:Int)<=i:=om
    go_wp2
    go_roundw
    case rel =>
     rw[HW.out,AY,DT];refine⟨i+1,(car+z)/4294967296,_,_,om,by go_num,by go_num,rfl,om,HSB.out.1,ab (HA.out.put (k:=j+i) om om),ab (HB.out.other HA.out.2.1 hne _ _),ab (HPC.out _ _ _ HPP.out),ab (fun t ht=>?_),ab HSB.out.2⟩
     rw[show lf (qs.set (j+i) _) t=lf qs t from fy om];exact HQ.out t om
    case measure=>simp[intOf];omega
   ·obtain rfl:i=k+2:=om
    obtain⟨hcu,hfu⟩:=HA.out.at_ (k:=j+(k+2)) om;have hu4:=HLP.out (j+(k+2));rw[show qs.getD (j+(k+2)) 0=lf ps (j+(k+2))from HQ.out _ (aK (af _))]at hcu;have hW0:=zi (lf ps (j+(k+2))) bor car hu4 hbor hcar;generalize hu:lf ps (j+(k+2))=u at hcu hu4 hW0;obtain⟨W,hW⟩:∃W,W=(u+18446744073709551616-car-bor)%18446744073709551616:=⟨_,rfl⟩;have HSB:=ab (J6 HV.out hbor hu4 hu HVT.out hcar (by rw[HA.out.2.2.1];omega) hW (show k+2+1=k+3 from rfl))
    rw[<-hW]at hW0;have hW64:W<18446744073709551616:=om
    clear hW hu;have hput:=HA.out.put (k:=j+(k+2)) (x:=W%4294967296) om om;have hoth:=HB.out.other HA.out.2.1 hne (j+(k+2)) (.int .u32 ((W%4294967296:Nat):Int));have hout:∀t,t<j∨j+k+3<=t->lf (qs.set (j+(k+2)) (W%4294967296)) t=lf ps t:=fun t ht=>by
     rw[show lf (qs.set (j+(k+2)) _) t=lf qs t from fy om];exact HQ.out t om
    have HP:=ab hput;clear hput;have HOT:=ab hoth;clear hoth;have HPT:=ab (HPC.out _ (j+(k+2)) (.int .u32 ((W%4294967296:Nat):Int)) HPP.out);have HOU:=ab hout;clear hout;by_cases hb:W/9223372036854775808=0
    ·have hb1:(W:Int)/9223372036854775808=0:=om
     obtain⟨k1,k2⟩:=J9 HKF.out HSB.out.2 hb;have HK1:=ab k1;clear k1;have HK2:=ab k2;clear k2;clear HSB HKF HFV;go_wp2;go_ret;exact⟨_,by rw[<-HK1.out];rfl,by simpa using HP.out,by simpa using HOT.out,by simpa using HPT.out,HOU.out,HK2.out⟩
    ·have hb1:¬(W:Int)/9223372036854775808=0:=om
     have hb2:W/9223372036854775808=1:=om
     have HQL:=ab (sE HP.out.2.2.2.1);have HSB0:=HSB;clear HSB;generalize hqq:qs.set (j+(k+2)) (W%4294967296)=qq at HSB0 HP HOU HQL;have hqx:lf qq (j+(k+2))=W%4294967296:=by rw[<-hqq,pP (by rw[HA.out.2.2.1];omega)]
     have HQX:=ab hqx;clear hqx;clear hqq HQ HV;go_wp2
     go_loopw [9,136] (fun cv iv wr=>∃(i car:Nat) (rs:List Nat),i<=k+2/\iv=.int .i64 i/\cv=.int .u64 car/\car<4294967296/\Hid (LA B w0 wr g N rs)/\Hid (LA B w0 wr gv M ys)/\Hid (P wr)/\Hid (∀t,t<j∨j+i<=t->lf rs t=lf qq t)/\Hid (vF i (frm (lf rs) j)+car*4294967296^i=vF i (frm (lf qq) j)+vF i (lf ys))) (fun _ iv _=>(k+2)-(intOf iv).toNat)
     case atStart=>exact⟨0,0,qq,om,rfl,rfl,om,ab (by simpa using HP.out),ab (by simpa using HOT.out),ab (by simpa using HPT.out),ab (fun _ _=>rfl),ab (by simp[vF])⟩
     case round =>
      clear HA HB HP HOT HPP HPT;obtain⟨i,car,rs,hi,rfl,rfl,hcar,HA,HB,HPP,HQ,HV⟩:=hrel;by_cases hin:i<k+2
      ·obtain⟨hcu,hfu⟩:=HA.out.at_ (k:=j+i) om;obtain⟨hcv,hfv⟩:=HB.out.at_ (k:=i) om;have hu4:=HQL.out (j+i);have hv4:=HLY.out i;rw[show rs.getD (j+i) 0=lf qq (j+i)from HQ.out _ (aK (af _))]at hcu;change _=some (c8 .u32 (lf ys i:Nat))at hcv;generalize hu:lf qq (j+i)=u at hcu hu4;generalize hv:lf ys i=v at hcv hv4;have HSB:=ab (Fq HV.out hu hv (by rw[HA.out.2.2.1];omega))
       clear hu hv;have hin':(i:Int)<(k:Int)+2:=om
       have hi0:(0:Int)<=i:=om
       go_wp2
       go_quiet (fail)
       go_wp2
       go_roundw
       case rel =>
        have hput:∀w',dJ wr w'->LA B w0 (w'.setCell ⟨g,j+i,none⟩ (.int .u32 (((car:Int)+((u:Int)+v))%4294967296))) g N (rs.set (j+i) ((car+(u+v))%4294967296)):=fun w' h=>by
         have:=(HA.out.still h).put (k:=j+i) (x:=(car+(u+v))%4294967296) om om;simpa using this
        have hoth:∀w',dJ wr w'->LA B w0 (w'.setCell ⟨g,j+i,none⟩ (.int .u32 (((car:Int)+((u:Int)+v))%4294967296))) gv M ys:=fun w' h=>(HB.out.still h).other HA.out.2.1 hne (j+i) _;refine⟨i+1,(car+(u+v))/4294967296,_,om,by go_num,by go_num,om,ab (hput _ (by repeat' (first|exact dJ.refl _|apply dJ.more))),ab (hoth _ (by repeat' (first|exact dJ.refl _|apply dJ.more))),ab (HPC.out _ _ _ (HPS.out wr _ (by repeat' (first|exact dJ.refl _|apply dJ.more)) HPP.out)),ab (fun t ht=>?_),HSB⟩
        rw[show lf (rs.set (j+i) _) t=lf rs t from fy om];exact HQ.out t om
       case measure=>simp[intOf];omega
      ·obtain rfl:i=k+2:=om
       obtain⟨hcu,hfu⟩:=HA.out.at_ (k:=j+(k+2)) om;rw[show rs.getD (j+(k+2)) 0=W%4294967296 from(HQ.out _ (aK (af _))).trans HQX.out]at hcu;have HSB:=ab (Kb HV.out HQX.out HVT.out hcar (by rw[HA.out.2.2.1];omega) (show k+2+1=k+3 from rfl))
       have hput:=HA.out.put (k:=j+(k+2)) (x:=(W%4294967296+car)%4294967296) om om;have hoth:=HB.out.other HA.out.2.1 hne (j+(k+2)) (.int .u32 (((W%4294967296+car)%4294967296:Nat):Int));obtain⟨k0,k1,k2⟩:=J8 HKF.out HFV.out (fun i _=>HQL.out _) (fun i _=>sE hput.2.2.2.1 _) (fun i _=>HLY.out i) HSB0.out.2 hb2 HSB.out;have HP:=ab hput;clear hput;have HOT:=ab hoth;clear hoth;have HPT:=ab (HPC.out _ (j+(k+2)) (.int .u32 (((W%4294967296+car)%4294967296:Nat):Int)) HPP.out);have HK1:=ab k1;clear k1;have HK2:=ab k2;clear k2;have hwr:IntKind.u64.wrap ((F:Int)-1)=((F-1:Nat):Int):=by rw[IntKind.wrap_u64];omega
       have hw2:IntKind.u32.wrap ((W:Int)%4294967296+car)=(((W%4294967296+car)%4294967296:Nat):Int):=by rw[IntKind.wrap_u32];omega
       have hF1:((F-1:Nat):Int)%4294967296=((F-1:Nat):Int):=om
       go_wp2;go_ret;refine⟨_,?_,by simpa using HP.out,by simpa using HOT.out,by simpa using HPT.out,fun t ht=>?_,HK2.out⟩
       ·rw[<-HK1.out];first|rfl|trace_state
       ·rw[show lf (rs.set (j+(k+2)) _) t=lf rs t from fy om];exact(HQ.out t om).trans (HOU.out t ht))

theorem LA.rebase(h:LA B1 w1 w2 g n ps)(b:Below B w0 w1)(a:B<=B1):LA B w0 w2 g n ps :=
 ⟨b.trans (h.1.mono a),bI a h.2.1,h.2.2⟩
theorem LA.keep(h:LA B w0 w1 g n ps)(a:Below B1 w1 w2)(b:B<=B1)(c:g<B1):LA B w0 w2 g n ps:=by
 obtain⟨d,e,f,i,cs,j,k⟩:=h;exact⟨d.trans (a.mono b),e,f,i,cs,j.below a c,k⟩
theorem LA.lt(h:LA B w0 w1 g n ps):g<w1.heap.size:=by
 obtain⟨b,c,d,e,cs,a,f⟩:=h;exact a.lt
theorem wo(l:List Nat){n:Nat}(h:l.length=n):vF n (lf l)=aY l:=by rw[G6 l,h]
theorem Mr(y:2<=m)(c:ys.length=m)(q:mp ys)(ty:nS ys)(z:s<32)(d:ys.getD (m-1) 0*2^s<4294967296)(l:vF (m+1) (lf vs)=vF m (lf ys)*2^s)(g:V=aY ys*2^s) :
  lf vs m=0/\vF m (lf vs)=V/\V<=4294967296^m/\0<V/\4294967296^(m-1)<=aY ys:=by
 have t:ys≠[]:=by intro h;subst h;simp at c;omega
 have j:=ro ty t;rw[c]at j;have o:=jb s;rw[wo ys c,<-g]at l;have k:V<4294967296^m:=by
  obtain⟨r,rfl⟩:∃r,m=r+1:=⟨m-1,om⟩
  have u:aY ys=vF r (lf ys)+lf ys r*4294967296^r:=by rw[<-wo ys c]<;>rfl
  have A:=r9 (n:=r) (f:=lf ys) fun i _=>sE q i;have v:(lf ys r+1)*2^s<=4294967296:=by
   have p:2^(32-s)*2^s=4294967296:=by rw[<-fE,(om:32-s+s=32)]
   have w:lf ys r<2^(32-s):=by
    have b:lf ys r*2^s<2^(32-s)*2^s:=by rw[p];exact d
    exact Nat.lt_of_mul_lt_mul_right b
   rw[<-p];exact ay _ w
  have x:aY ys<(lf ys r+1)*4294967296^r:=by rw[u,ck];omega
  rw[g,bM]
  calc
   aY ys*2^s<(lf ys r+1)*4294967296^r*2^s:=kB x o
   _=(lf ys r+1)*2^s*4294967296^r:=by rw[aZ,av (4294967296^r),<-aZ]
   _<=4294967296*4294967296^r:=ay _ v
   _=_:=av _ _
 have a:lf vs m=0:=by
  have e:vF (m+1) (lf vs)=vF m (lf vs)+lf vs m*4294967296^m:=rfl;rcases bC (lf vs m)with b|b
  ·exact b
  ·have:=ay (4294967296^m) (show 1<=lf vs m from b);omega
 refine⟨a,by rw[<-vS a];exact l,Nat.le_of_lt k,?_,j⟩
 rw[g];exact Nat.mul_pos (Nat.lt_of_lt_of_le (Nat.pow_pos om) j) o
theorem Ka{k:Nat}(b:4294967296^(k+1)<=aY ys)(a:mp vs)(c:V=aY ys*2^s)(d:vF (k+2) (lf vs)=V):0<lf vs (k+1):=by
 rcases bC (lf vs (k+1))with h|h
 ·rw[vS h]at d;have g:=r9 (n:=k+1) (f:=lf vs) fun i _=>sE a i;have e:=Nat.mul_le_mul b (jb s);rw[Nat.mul_one,<-c]at e;omega
 ·exact h
theorem Ie{M:Nat}{xs:List Nat}(i:1<=m)(a:aY xs<4294967296^(M+m))(b:4294967296^(m-1)<=aY ys)(c:V=aY ys*2^s)(d:X=aY xs*2^s):X<V*4294967296^(M+1):=by
 rw[d,c];have f:=jb s;have e:(4294967296:Nat)^(M+m)=4294967296^(m-1)*4294967296^(M+1):=by rw[<-fE];congr 1;omega
 rw[e]at a;have j:=ay (4294967296^(M+1)) b;have g:aY xs<aY ys*4294967296^(M+1):=om
 have h:=kB g f;rw[aZ (aY ys),av (2^s),<-aZ];exact h
theorem Mq{y:Nat}(b:V=y*2^s)(c:X=x*2^s):X/V=x/y/\X%V/2^s=x%y:=by
 have a:=jb s;subst b c;refine⟨Nat.mul_div_mul_right _ _ a,?_⟩;rw[Nat.mul_mod_mul_right,Nat.mul_div_cancel _ a]
theorem CH(A D:Option Addr)(M k c d L:Nat)(xs ys:List Nat)(w:World)(hn:M+(k+2)<=268435000)(h2:2<M+(k+2))(hL:L<=w.heap.size)(hx:cj w L A (M+(k+2)) xs)(hy:cj w L D (k+2) ys)(tx:nS xs)(ty:nS ys)
  (h0:0<aY ys) (hge:¬aY xs<aY ys) :
  Calls ah 137 #[.slice A (M+(k+2)) c,.slice D (k+2) d] w (mt w (aY xs/aY ys) (aY xs%aY ys)):=by
 have hc:0<=kt (aY xs) (aY ys):=by
  rcases Nat.lt_or_ge (aY ys) (aY xs)with h|h
  ·rw[jO h];omega
  ·rw[kM om];omega
 have hmk:=AP (M+1) om;rw[show((M+1:Nat):Int)=(M:Int)+1 by omega]at hmk
 obtain⟨bd,rfl,hbdb,hcb⟩:=hy.2.2 om;have hcb0:=hcb (k+1) om;obtain⟨db,dof,dsp⟩:=bd;obtain rfl:dsp=none:=by simpa [Addr.add]using World.cell?_spot (hcb 0 om)
 rw[show(⟨db,dof,none⟩:Addr).add (k+1)=⟨db,dof+(k+1),none⟩from Addr.add_lit ..]at hcb0;have hy4:=hy.2.1.getD (k+1);have hyt:ys.getD (k+1) 0≠0:=by
  have hl:=hy.1;have hne:ys≠[]:=by intro h;subst h;simp at hl
  have e:=ty (ys.getLast hne) (List.getLast?_eq_some_getLast hne);rw[List.getLast_eq_getElem]at e;simp only[hl]at e;rw[cK,List.getElem?_eq_getElem om];exact e
 have hxv:=iL hx.2.1;rw[hx.1]at hxv;clear hcb;have HX:=ab hx;clear hx;have HY:=ab hy;clear hy;have HTX:=ab tx;clear tx;have HTY:=ab ty;clear ty;have HXV:=ab hxv;clear hxv;generalize hcm:kt (aY xs) (aY ys)=cm at hc;have Hcm:=ab hcm;clear hcm;generalize hty:ys.getD (k+1) 0=yt at hcb0 hy4 hyt;have HYT:=ab hty;clear hty;have HCB:=ab hcb0;clear hcb0;have hcn:¬cm<0:=om
 have hn2:¬(M:Int)+((k:Int)+2)<=2:=om
 have hn2':decide ((M:Int)+((k:Int)+2)<=2)=false:=by simpa using hn2
 have hk1:((k:Int)+2==1)=false:=by simp;omega
 have hk1':¬((k:Int)+2=1):=om
 clear hge
 go_enter func137,ntmps137
 go_wp2_with fail
 refine(gD A (some ⟨db,dof,none⟩) (M+(k+2)) (k+2) c d L xs ys w om om HX.out HY.out HTX.out HTY.out).mono ?_;rintro e w1 ⟨rfl,hst⟩;rw[Hcm.out];have HB1:=ab (hst.below w.heap.size);have hcell:w1.cell? ⟨db,dof+(k+1),none⟩=some (.int .u32 yt):=(hst.cell _).trans HCB.out;clear hst;have HY1:=ab (HY.out.below HB1.out hL);have HX1:=ab (HX.out.below HB1.out hL);have hL1:L<=w1.heap.size:=bI hL HB1.out.size
 go_wp2_with fail
 refine(F3 yt w1 om hy4).mono ?_;rintro e w1' ⟨s,rfl,hs,hsh,rfl⟩
 go_wp2_with fail
 have hsz1:=HB1.out.size;refine(rb (some ⟨db,dof,none⟩) (k+2) d s L ys w1' om hs hL1 HY1.out).mono ?_;rintro e w2 ⟨cv,vs,rfl,hcv,hlv,hvv⟩;obtain⟨V,hV⟩:∃V,V=aY ys*2^s:=⟨_,rfl⟩;obtain⟨t1,t2,t3,t4,t5⟩:=Mr (m:=k+2) om HY.out.1 HY.out.2.1 HTY.out hs (by rw[show k+2-1=k+1 from rfl,HYT.out];exact hsh) hvv hV
 have t6:=Ka t5 hlv.2.2.2.1 hV t2;have HLV:=ab hlv;clear hlv;have HX2:=ab (HX1.out.below HLV.out.1 hL1);clear hcell hsh hvv
 go_wp2_with fail
 refine(rb A (M+(k+2)) c s L xs w2 om hs (bI hL1 HLV.out.1.size) HX2.out).mono ?_;rintro e w3 ⟨cr,rs,rfl,hcr,hlr,hvr⟩;rw[wo xs HX.out.1]at hvr;obtain⟨X,hX⟩:∃X,X=aY xs*2^s:=⟨_,rfl⟩;have hXV:=Ie (m:=k+2) (M:=M) om HXV.out t5 hV hX;rw[<-hX]at hvr;obtain⟨f1,f2⟩:=Mq hV hX;generalize hgv:w1'.heap.size=gv at HLV;generalize hgr:w2.heap.size=gr at hlr;have hgvr:gv<gr:=by rw[<-hgv,<-hgr];have:=HLV.out.lt;omega
 have HLV3:Hid (LA gv w1' w3 gv (k+2+1) vs):=ab (HLV.out.keep hlr.1 om hgvr);have HLR:Hid (LA gv w1' w3 gr (M+(k+2)+1) rs):=ab (hlr.rebase HLV.out.1 om);have hsz3:=hlr.1.size;clear hlr HLV;have HT:=ab (And.intro t1 (And.intro t2 (And.intro t3 (And.intro t4 t6))));clear t1 t2 t3 t4 t5 t6;have HF:=ab (And.intro f1 f2);clear f1 f2;have HVR:=ab hvr;clear hvr;have HXV2:=ab hXV;clear hXV;clear hV hX;go_wp2;clear hmk;have hLQ:=LA.start w3 (M+1);generalize hgq:w3.heap.size=gq at hLQ;have hgq2:gr<gq:=by have:=HLR.out.lt;omega
 have HLQ:Hid (LA gv w1' (w3.alloc (.cells (df [] (M+1)) 136)) gq (M+1) (bV (M+1) 0)):=ab (hLQ.rebase HLR.out.1 om);have HLV4:=ab (HLV3.out.keep hLQ.1 om om);have HLR4:=ab (HLR.out.keep hLQ.1 om hgq2);clear HLV3 HLR hLQ;have HDN:=ab (DN.init (n:=k+2) (m:=M) (X:=X) (V:=V) (q:=lf (bV (M+1) 0)) (r:=lf rs) (fun t=>by simp[lf,cK,List.getElem?_replicate];split<;>rfl) HVR.out HXV2.out (fun t ht=>DU (by rw[HLR4.out.2.2.1];omega)))
 go_loopw [12] (fun jv wr=>∃(J:Nat) (qs rs:List Nat),J<=M+1/\jv=.int .i64 ((J:Int)-1)/\Hid (LA gv w1' wr gv (k+2+1) vs)/\Hid (LA gv w1' wr gr (M+(k+2)+1) rs)/\Hid (LA gv w1' wr gq (M+1) qs)/\Hid (DN (k+2) M X V J (lf qs) (lf rs))) (fun jv _=>(intOf jv+1).toNat)
 case atStart=>exact⟨M+1,_,rs,om,by go_num,HLV4,HLR4,HLQ,HDN⟩
 case round =>
  clear HLV4 HLR4 HLQ HDN;obtain⟨J,qs,rr,hJ,rfl,HLV,HLR,HLQ,HDN⟩:=hrel;rcases bC J with h0J|h0J
  ·subst h0J;obtain⟨g1,g2⟩:=HDN.out.last;rw[HF.out.1,wo qs HLQ.out.2.2.1]at g1;have HG1:=ab g1;clear g1;have HG2:=ab g2;clear g2
   go_wp2_with fail
   refine(wJ gv w1' _ gr (M+(k+2)+1) _ s rr om hs HLR.out (fun w=>LA gv w1' w gq (M+1) qs) (fun _ _ _ h=>h.other om om _ _) HLQ.out).mono ?_;rintro e w5 ⟨ps,rfl,hA,hQ,hval⟩;rw[HG2.out,HF.out.2,wo ps hA.2.2.1]at hval;have HVA:=ab hval;clear hval;have HA5:=ab hA;clear hA;have HQ5:=ab hQ;clear hQ
   go_wp2_with fail
   refine(jW _ _ _ _ _ _ om om HQ5.out.u32).mono ?_;rintro e w' ⟨⟨k1,hk1,rfl,hU1,hT1,hv1⟩,rfl⟩;have HU1:=ab hU1;clear hU1;have HT1:=ab hT1;clear hT1;have HV1:=ab hv1;clear hv1
   go_wp2_with fail
   refine(jW _ _ _ _ _ _ om om HA5.out.u32).mono ?_;rintro e w' ⟨⟨k2,hk2,rfl,hU2,hT2,hv2⟩,rfl⟩;have HU2:=ab hU2;clear hU2;have HT2:=ab hT2;clear hT2;have HV2:=ab hv2;clear hv2;go_wp2;go_ret2;exact⟨_,k1,_,_,_,k2,_,_,rfl,om,om,HU1.out,HU2.out,HT1.out,HT2.out,HV1.out.trans HG1.out,HV2.out.trans HVA.out,HB1.out.trans (HA5.out.1.mono om)⟩
  ·obtain⟨j,rfl⟩:∃j,J=j+1:=⟨J-1,om⟩
   have e1:((j+1:Nat):Int)-1=j:=om
   rw[e1];have hj0:(j:Int)≥0:=om
   have hjM:(j:Int)<(M:Int)+1:=om
   have hjs:(j:Int)+((k:Int)+2)+1<=(M:Int)+((k:Int)+2)+1:=om
   have hr4:=sE HLR.out.2.2.2.1;have hun:=HDN.out.under (hr4 j);have hV2:vF (k+2) (lf vs)=V:=HT.out.2.1;have hq4:vF (k+3) (frm (lf rr) j)/V<4294967296:=Nat.div_lt_of_lt_mul (by rw[av];rw[av];exact hun)
   have HQ4:=ab hq4;clear hq4;have HUN:=ab hun;clear hun;have HV2:=ab hV2;clear hV2;clear hr4
   go_wp2_with fail
   rw[(om:j+(k+2)+1-j=k+3)]
   refine(xJ gv w1' _ gr gv (M+(k+2)+1) (k+2+1) j k _ cv rr vs om om om om HLR.out HLV.out HT.out.2.2.2.2 HT.out.1 (by rw[HV2.out];exact HUN.out)
    (fun w=>LA gv w1' w gq (M+1) qs) (fun _ _ hs h=>h.still hs) (fun _ _ _ h=>h.other om om _ _) HLQ.out).mono ?_
   rintro e w5 ⟨rs',rfl,hA,hB,hQ,hout,hval⟩;rw[HV2.out]at hval ⊢;have hstep:=HDN.out.step (q':=lf (qs.set j (vF (k+3) (frm (lf rr) j)/V))) (r':=lf rs') HT.out.2.2.1 HT.out.2.2.2.1 (fun t ht=>hout t (bn ht)) (fun t ht=>hout t (aK om)) hval (fun t ht=>fy (Ne.symm ht)) (pP (by rw[HLQ.out.2.2.1];omega))
   have HST:=ab hstep;clear hstep;have HQ5:=HQ4;clear HQ4 hval;generalize vF (k+3) (frm (lf rr) j)/V=q at HST HQ5 ⊢;have hq4:=HQ5.out;obtain⟨hcq,hfq⟩:=hQ.at_ (k:=j) om;have hput:=hQ.put (k:=j) (x:=q) om hq4;have HPU:=ab hput;clear hput;have HA:=ab (hA.other (g:=gq) om om j (.int .u32 (q:Nat)));have HB:=ab (hB.other (g:=gq) om om j (.int .u32 (q:Nat)));clear hA hB hQ hout;go_wp2
   go_roundw
   case rel=>exact⟨j,_,rs',om,rfl,HB,HA,HPU,HST⟩
   case measure=>simp[intOf]

theorem CJ(A D:Option Addr)(n m c d L:Nat)(xs ys:List Nat)(w:World)(h:n<=268435000)(l:m<=268435000)(e:L<=w.heap.size)(a:cj w L A n xs)(b:cj w L D m ys)(tx:nS xs)(ty:nS ys)(f:0<aY ys) :
  Calls ah 137 #[.slice A n c,.slice D m d] w (mt w (aY xs/aY ys) (aY xs%aY ys)):=by
 by_cases i:aY xs<aY ys∨n<=2∨m<=1
 ·exact xK A D n m c d L xs ys w om om e a b tx ty f i
 ·have j:m<=n:=by
   have g:=fo (om:aY ys<=aY xs)
   rw[<-aE a tx,<-aE b ty]at g;exact g
  obtain⟨k,rfl⟩:∃k,m=k+2:=⟨m-2,om⟩
  obtain⟨M,rfl⟩:∃M,n=M+(k+2):=⟨n-(k+2),om⟩
  exact CH A D M k c d L xs ys w h om e a b tx ty f om
theorem EI(va vb:Value)(za zb:Int)(B:Nat)(w:World)(e:B<=w.heap.size)(f:ed w B va za)(g:ed w B vb zb)(sa:nl za.natAbs<=268435000)(sb:nl zb.natAbs<=268435000)(h:zb≠0) :
  Calls ah 82 #[va,vb] w (uU w (za/zb) (za%zb)) :=
 yv va vb za zb B w e f g om om h fun A D n m c d xs ys w i a b tx ty j k l=>by
  rw[<-k,<-aE a tx]at sa;rw[<-l,<-aE b ty]at sb;exact CJ A D n m c d B xs ys w sa sb i a b tx ty j

end Go.Proofs.YtdobfmlmenaajaaGreatDoor
