/- Part of the proof. -/
import Derived.Test.YtpejealjkmhkgaaGreatDoorKAj
import Derived.Lib.Bytealg
import Derived.Lib.IndexMore
set_option linter.all false
set_option maxHeartbeats 16000000
set_option maxRecDepth 100000
open Nat renaming beq->YL,mul_add->YN
open Bool renaming eq_iff_iff->YM
namespace Go.AM
def indexByte:List UInt8->Nat->Nat->Int
 |[],_,_=> -1
 |x::c,a,b=>match YL x.toNat a with|true=>.ofNat b|false=>indexByte c a (b+1)
def rh:List UInt8->List UInt8->Bool
 |[],_=>true
 |_,[]=>false
 |a::c,d::b=>match YL a.toNat d.toNat with|true=>rh c b|false=>false
def jX(a:List UInt8):List UInt8->Bool
 |[]=>match a with|[]=>true|_=>false
 |x::b=>match rh a (x::b)with|true=>true|false=>jX a b
def vN(a b:List UInt8):Int:=match cB a b with|true=> -1|false=>match kP a b with|true=>0|false=>1
def countB(c:Nat):List UInt8->Nat
 |[]=>0
 |x::a=>match YL x.toNat c with|true=>countB c a+1|false=>countB c a
theorem F4(b:UInt8){c:Nat}(a:c<256):(b==c.toUInt8)=YL b.toNat c:=by
 rw[YM];simp only[beq_iff_eq,Nat.beq_eq];constructor
 ·rintro rfl;simp[Nat.mod_eq_of_lt a]
 ·intro d;apply UInt8.toNat_inj.1;simp[Nat.mod_eq_of_lt a,d]
theorem CA(c b:UInt8):(c==b)=YL c.toNat b.toNat:=by
 rw[YM];simp only[beq_iff_eq,Nat.beq_eq];exact⟨fun a=>a▸Z,fun a=>UInt8.toNat_inj.1 a⟩
theorem RE(b a:UInt8):Nat.blt b.toNat a.toNat=decide (b<a):=by
 rw[YM,decide_eq_true_eq,UInt8.lt_iff_toNat_lt];show Nat.ble (b.toNat+1) a.toNat=true↔_;rw[Nat.ble_eq];exact Iff.rfl
theorem DP{c:Nat}(f:c<256):∀(b:List UInt8) (a:Nat),indexByte b c a=if Lib.indexByte b c.toUInt8= -1 then-1 else(a:Int)+Lib.indexByte b c.toUInt8:=by
 intro b;induction b with
 |nil=>intro a;rfl
 |cons h b d=>
  intro a;simp only[indexByte,Lib.indexByte,F4 h f];cases YL h.toNat c with
  |true=>simp
  |false=>
   simp only[d,Bool.false_eq_true,if_false,beq_iff_eq];have g:=Lib.indexByte_ge b c.toUInt8;by_cases e:Lib.indexByte b c.toUInt8= -1
   ·simp[e]
   ·rw[if_neg e,if_neg e,if_neg om];omega
theorem BP{c:Nat}(a:c<256)(l:List UInt8):indexByte l c 0=Lib.indexByte l c.toUInt8:=by
 rw[DP a];split
 ·rename_i b;exact b.symm
 ·simp
theorem ID{c:Nat}(b:c<256)(l:List UInt8):countB c l=Lib.countByte l c.toUInt8:=by
 unfold Lib.countByte;induction l with
 |nil=>rfl
 |cons d l a=>
  rw[List.count_cons,F4 d b];simp only[countB];cases YL d.toNat c with
  |true=>simp[a]
  |false=>simp[a]
theorem OF:∀(e b:List UInt8),vN e b=Lib.compareBytes e b:=by
 intro e;induction e with
 |nil=>intro b;cases b<;>rfl
 |cons g e a=>
  intro b;cases b with
  |nil=>rfl
  |cons f b=>
   have a:=a b;unfold vN at a⊢;simp only[Lib.compareBytes,cB,kP,RE];by_cases h:g<f
   ·simp[h]
   ·simp only[h,decide_false,if_false];by_cases c:g=f
    ·subst c;simp only[Nat.beq_refl,h,if_false];exact a
    ·have i:YL g.toNat f.toNat=false:=by
      rw[<-CA];simpa using c
     have d:f<g:=UInt8.lt_of_le_of_ne (UInt8.not_lt.1 h) (Ne.symm c);simp[i,d]
theorem L8:∀(b a:List UInt8),rh b a=b.isPrefixOf a:=by
 intro b;induction b with
 |nil=>intro a;cases a<;>simp[rh]
 |cons e b c=>
  intro a;cases a with
  |nil=>simp[rh]
  |cons d a=>
   simp only[rh,List.isPrefixOf_cons_cons,CA e d,c];cases YL e.toNat d.toNat<;>simp
theorem IE(a:List UInt8):∀(s:List UInt8),jX a s=Lib.contains s a:=by
 intro s;unfold Lib.contains;induction s with
 |nil=>cases a<;>simp[jX,Lib.index]
 |cons e s f=>
  rw[YM,decide_eq_true_eq]at f⊢;have d:Lib.index (e::s) a=if a.isPrefixOf (e::s)then 0 else if Lib.index s a== -1 then-1 else Lib.index s a+1:=rfl
  have c:jX a (e::s)=match rh a (e::s)with|true=>true|false=>jX a s:=rfl
  rw[L8]at c;have g:=Lib.index_ge s a;by_cases b:a.isPrefixOf (e::s)=true
  ·rw[if_pos b]at d;rw[b]at c;rw[d,c];simp
  ·rw[if_neg b]at d;rw[Bool.not_eq_true]at b;rw[b]at c;rw[d,c];show jX a s=true↔_;rw[f];by_cases h:Lib.index s a= -1
   ·simp[h]
   ·rw[if_neg (by simpa using h)];omega
def oJ{b:Type}(p:Nat->b->Prop):Nat->Nat->Tr b->Prop
 |_,_,.nil=>True
 |mul,a,.node e f d=>(match e with|some c=>p a c|none=>True)/\oJ p (2*mul) (mul+a) f/\oJ p (2*mul) (2*mul+a) d
theorem DQ{l:Type}{p:Nat->l->Prop}:∀(o:Tr l) (a b g h:Nat),h<=g->oJ p a b o->∀i,hV (fT g h) o=some i->p (a*h+b) i:=by
 intro o;induction o with
 |nil=>intro a b g h _ _ i n;rw[oD]at n;cases n
 |node x y w k m=>
  intro a b g h u n i c;obtain⟨j,q,r⟩:=n;cases g with
  |zero=>
   have:h=0:=om;subst this;simp only[fT,hV]at c;subst c;simpa using j
  |succ g=>
   cases h with
   |zero=>
    simp only[fT,hV]at c;subst c;simpa using j
   |succ d=>
    simp only[fT]at c;cases f:YL (d%2) 0 with
    |true=>
     rw[f]at c;simp only[hV]at c;have:=k _ _ g (d/2) om q i c;have s:=Nat.eq_of_beq_eq_true f;have t:2*a*(d/2)+(a+b)=a*(d+1)+b:=by
      have e:d=2*(d/2):=om;generalize d/2=v at e;subst e;rw[YN,Nat.mul_comm 2 a,Nat.mul_assoc];omega
     rw[<-t];exact this
    |false=>
     rw[f]at c;simp only[hV]at c;have:=m _ _ g (d/2) om r i c;have s:=Nat.ne_of_beq_eq_false f;have t:2*a*(d/2)+(2*a+b)=a*(d+1)+b:=by
      have e:d=2*(d/2)+1:=om;generalize d/2=v at e;subst e;rw[YN,YN,Nat.mul_comm 2 a,Nat.mul_assoc];omega
     rw[<-t];exact this
theorem oJ.get{a:Type}{p:Nat->a->Prop}{t:Tr a}(d:oJ p 1 0 t){n:Nat}{b:a}(c:t.get n=some b):p n b:=by
 have:=DQ t 1 0 n n (Nat.le_refl _) d b c;simpa using this
end Go.AM
