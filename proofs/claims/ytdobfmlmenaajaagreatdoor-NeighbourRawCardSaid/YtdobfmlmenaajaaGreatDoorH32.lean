/-
  Lemmas for NeighbourRaw.
-/
import Derived.Test.YtdobfmlmenaajaaGreatDoorH31
namespace Go.Proofs.YtdobfmlmenaajaaGreatDoor
open Go.RowKit Tryz
set_option maxHeartbeats 6400000
set_option maxRecDepth 4096
set_option linter.all false
variable{z:AV}{args:List AV}{f n p:Nat}{v v':Nat->Int}{M:Nat->Prop}{w:World}{H:aI}
def BH(f:Nat)(args:List AV)(z:AV):Prop:=∀S,lL S->cP f args S (fun r S'=>r=z/\ft S S')
def PF.ge(h:PF f args z):BH f args z:=fun S _=>h.call ⟨rfl,ft.refl S⟩
def aT.first3{x y z':AV}(h:∀v,bs w M z v->bs w M z' v){vs:List Value}(d:aT w M [z,x,y] vs):aT w M [z',x,y] vs:=by
 match vs,d with
 | [a,b,c],d =>
  simp only[aT]at d ⊢;exact⟨h a d.1,d.2⟩
def Cr{B B':aI}(h:∀i j,i<n->j<n->B i j=B' i j):EH n p H B=EH n p H B':=by
 funext i j;unfold EH;split
 .rename_i a;congr 1;exact rj (fun k b=>rj (fun l c=>h l i c a.1) fun _ _=>rfl) fun k b=>h k j b a.2
 .rfl
theorem xD{v v':Nat->Int}:∀{n:Nat},(∀i,i<n->v i=v' i)->iO v n=iO v' n
 | 0,_=>rfl
 | n+1,h=>by simp only[iO];rw[xD fun i a=>h i om,h n om]
def Du(h:∀i,i<n->v i=v' i):eX n H v n=eX n H v' n:=by
 unfold eX;exact aE fun i a=>by rw[h i a,aE fun j b=>by rw[h j b]]
def AW.nat(h:AW n p H v):lX n p H (fun k=>(v k).toNat)/\∀i,i<n->v i=(((v i).toNat:Nat):Int):=by
 have a:∀i,i<n->v i=(((v i).toNat:Nat):Int):=fun i b=>by have:=h.1 i b;omega
 exact⟨⟨fun i b=>by have:=h.1 i b;omega,by rw[<-xD a];exact h.2.1,by rw[<-Du a];exact h.2.2⟩,a⟩
def K6{p:Int}(h:qw n H p=0):gk n H/\qL p/\¬det n H%p=0:=by
 unfold qw at h;split at h
 .rename_i a;split at h
  .rename_i b;exact⟨a,b⟩
  .omega
 .omega

end Go.Proofs.YtdobfmlmenaajaaGreatDoor
