/- Part of the proof. -/
import Derived.Test.YtpejealjkmhkgaaGreatDoorKAj
set_option linter.all false
set_option maxHeartbeats 16000000
set_option maxRecDepth 100000
open Nat renaming mul_add->abK
namespace Go.AM
def qB{b:Type}(p:Nat->b->Prop):Nat->Nat->Tr b->Prop
 |_,_,.nil=>True
 |mul,a,.node e f d=>(match e with|some c=>p a c|none=>True)/\qB p (2*mul) (mul+a) f/\qB p (2*mul) (2*mul+a) d
theorem GP{l:Type}{p:Nat->l->Prop}:∀(o:Tr l) (a b g h:Nat),h<=g->qB p a b o->∀i,iN (hP g h) o=some i->p (a*h+b) i:=by
 intro o;induction o with
 |nil=>intro a b g h _ _ i n;rw[qv]at n;cases n
 |node x y w k m=>
  intro a b g h u n i c;obtain⟨j,q,r⟩:=n;cases g with
  |zero=>
   have:h=0:=om;subst this;simp only[hP,iN]at c;subst c;simpa using j
  |succ g=>
   cases h with
   |zero=>
    simp only[hP,iN]at c;subst c;simpa using j
   |succ d=>
    simp only[hP]at c;cases f:Nat.beq (d%2) 0 with
    |true=>
     rw[f]at c;simp only[iN]at c;have:=k _ _ g (d/2) om q i c;have s:=Nat.eq_of_beq_eq_true f;have t:2*a*(d/2)+(a+b)=a*(d+1)+b:=by
      have e:d=2*(d/2):=om;generalize d/2=v at e;subst e;rw[abK,Nat.mul_comm 2 a,Nat.mul_assoc];omega
     rw[<-t];exact this
    |false=>
     rw[f]at c;simp only[iN]at c;have:=m _ _ g (d/2) om r i c;have s:=Nat.ne_of_beq_eq_false f;have t:2*a*(d/2)+(2*a+b)=a*(d+1)+b:=by
      have e:d=2*(d/2)+1:=om;generalize d/2=v at e;subst e;rw[abK,abK,Nat.mul_comm 2 a,Nat.mul_assoc];omega
     rw[<-t];exact this
theorem qB.get{a:Type}{p:Nat->a->Prop}{t:Tr a}(d:qB p 1 0 t){n:Nat}{b:a}(c:t.get n=some b):p n b:=by
 have:=GP t 1 0 n n (Nat.le_refl _) d b c;simpa using this
end Go.AM
