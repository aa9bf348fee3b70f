/-
  Lemmas for NeighbourBack.
-/
import Derived.Test.YtdobfmlmenaajaaGreatDoorB16
namespace Go.Proofs.YtdobfmlmenaajaaGreatDoor
open Go.RowKit Tryz
set_option maxHeartbeats 6400000
set_option maxRecDepth 4096
set_option linter.all false
variable{l l':List AV}{M:Nat->Prop}{w:World}


def GW(S0:St)(M d k L:Nat)(nums:Nat->Int)(Lb:Nat)(base:Nat->AV)(q t:Nat)(s:1<=M)(x:M<=5)(o:d<256)(j:k<256)(F:q<256)(G:t<65536)(hnums:∀i,i<L->-128<=nums i/\nums i<=127) :
  cI 13 [AB d k L nums Lb base q t,.int .i64 M] S0 (fun r S'=>MadeD r/\S'=S0):=by
 refine cI.frz ((L5 S0 M d k L nums Lb base q t s x o j F G hnums).mono ?_);rintro r S' ⟨y,n,H,p,D,_,P,Q,I⟩;have o:∀k,S0.dom k->S'.dom k:=fun k j=>by
  unfold St.dom at j ⊢
  cases e:S0 k with
  | none=>exact absurd e j
  | some X=>rw[y k X e];simp
 rcases I with rfl|⟨c,v,rfl,J,K,R⟩
 .refine⟨_,fun w u E l=>?_,y,n,p,0,H,fun _=>0,false,D,rfl⟩;simp only[bI]at l;obtain⟨vs,m,f⟩:=l;simp only[bI];refine⟨vs,m,?_⟩
  match vs,f with
  | [a,b,c,d],f =>
   simp only[bB]at f ⊢;obtain⟨z,A,B,C,_⟩:=f;exact⟨bI.turn (fun k _ j=>o k j) _ _ z,by simpa [bI]using A,I1 (by simpa [bI]using B),by simpa [bI]using C,trivial⟩
 .refine⟨_,fun w u E l=>?_,y,n,p,n,H,fun k=>v k,true,D,rfl⟩;have N:oq (fun b=>if b=c then S' b else none) c n (fun k=>v k):=by
   obtain⟨g,m,f⟩:=J;exact⟨g,by dsimp only;rw[aj rfl];exact m,f⟩
  have O:=N.vr.frz (S:=S0) (S':=S') (fun b X h=>by
   split at h
   .exact h
   .cases h) (fun b h=>by
   split at h
   .rename_i e;rw[e];exact K
   .exact absurd rfl h)
  simp only[bI]at l;obtain⟨vs,m,f⟩:=l;simp only[bI];refine⟨vs,m,?_⟩
  match vs,f with
  | [a,b,c',d],f =>
   simp only[bB]at f ⊢;obtain⟨z,A,B,C,_⟩:=f;exact⟨bI.turn (fun k _ j=>o k j) _ _ z,by simpa [bI]using A,O w c' E B,by simpa [bI]using C,trivial⟩
def bB.step{a b:AV}(h:∀u,bI w M a u->bI w M b u)(d:∀vs,bB w M l vs->bB w M l' vs)(vs:List Value)(c:bB w M (a::l) vs):bB w M (b::l') vs:=by
 match vs,c with
 | u::us,c =>
  simp only[bB]at c ⊢;exact⟨h u c.1,d us c.2⟩
 | [],c=>simp[bB]at c

end Go.Proofs.YtdobfmlmenaajaaGreatDoor
