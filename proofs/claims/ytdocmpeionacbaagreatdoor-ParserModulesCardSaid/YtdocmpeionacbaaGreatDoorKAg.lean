/- Part of the proof. -/
import Derived.Test.YtdocmpeionacbaaGreatDoorKAe
import Derived.Test.YtdocmpeionacbaaGreatDoorKAf
import Derived.Laws.StandIn
set_option linter.all false
set_option maxHeartbeats 16000000
set_option maxRecDepth 100000
open Nat renaming eq_of_beq_eq_true->ais
namespace Go.Proofs.YtdocmpeionacbaaGreatDoor
open Go.AM
open Go.RowKit (Below)
variable{a:Array Value} {c:Value} {b:Ren}
def vs1{h:n_ Value}(g:du b (c::h) a.toList):∃e f,a=(e::f).toArray/\dA b c e/\du b h f:=by
 have⟨j⟩:=a;cases g with
 |cons g i=>exact⟨_,_,rfl,g,i⟩
def MO{g:Value}(f:flat c=true)(j:flat g=true)(k:du b [c,g] a.toList):a= #[c,g]:=by
 obtain⟨l,m,rfl,h,e⟩:=vs1 k;cases e with
 |cons e i=>
  cases i;rw[tJ f h,tJ j e]
def dB(e:du b [] a.toList):a= #[]:=by
 have⟨f⟩:=a;cases e;rfl
def Zm:qp C:=by
 intro p j u g q m n f;change ext p j=some u at g;unfold ext at g;split at g
 ·rename_i s l;have k:=MO rfl rfl f;subst k;split at g
  ·cases g
  rename_i i;have i:l<256:=by
   have:Nat.ble (l+1) 256=true:=i;rw[Nat.ble_eq]at this;exact this
  split at g
  ·rename_i e;have e:=ais e;subst e;cases g;refine⟨?_,.int _ _⟩;have h:=run_callFunc_extern (P:=Tryz.prog) Tryz.func256 (by kernel_rfl) (by kernel_rfl) (by kernel_rfl) (e:=Extern.BytealgIndexByte.indexByte) (by kernel_rfl) #[.string s,.int .u8 (.ofNat l)] n;rw[Lib.run_indexByteString]at h;rw[HR i];exact h
  split at g
  ·rename_i e;have e:=ais e;subst e;cases g;refine⟨?_,.int _ _⟩;have h:=run_callFunc_extern (P:=Tryz.prog) Tryz.func272 (by kernel_rfl) (by kernel_rfl) (by kernel_rfl) (e:=Extern.BytealgCount.count) (by kernel_rfl) #[.string s,.int .u8 (.ofNat l)] n;rw[Lib.run_countString]at h;rw[RQ i];exact h
  cases g
 ·rename_i t r;have k:=MO rfl rfl f;subst k;split at g
  ·rename_i e;have e:=ais e;subst e;cases g;refine⟨?_,.int _ _⟩;have h:=run_callFunc_extern (P:=Tryz.prog) Tryz.func251 (by kernel_rfl) (by kernel_rfl) (by kernel_rfl) (e:=Extern.BytealgCompare.compare) (by kernel_rfl) #[.string t,.string r] n;rw[Lib.run_compareString]at h;rw[YT];exact h
  cases g
 cases g
def zJ(e:World):Prop:=0<e.heap.size/\∃f,e.cell? ⟨0,0,none⟩=some (.int .i64 f)
variable{d:World}
def zJ.below{e:World}(i:zJ d)(g:Below d.heap.size d e):zJ e:=by
 have⟨f,j,h⟩:=i;refine⟨Nat.lt_of_lt_of_le f g.size,j,?_⟩;rw[<-h];unfold World.cell?;simp only[g.block 0 f]
def Pe(h:zJ d):FT C d d.heap.size Pd:=by
 intro y j x f;unfold Pd at f;split at f
 ·cases f
 rename_i g;have g:=ais g;subst g;split at f
 ·rename_i s u;split at f
  ·rename_i l;cases f;refine .inl ⟨Z,λq i w e k t=>?_⟩;have n:=MO rfl rfl e;subst n;have⟨_,r,h⟩:=h.below k;have m:s.size<4294967281:=by
    have:Nat.ble (s.data.toList.length+1) 4294967281=true:=l;rw[Nat.ble_eq]at this;have v:=Lib.size_eq s;omega
   have o:=Any.strings_Contains {zb with} s u r w m h;refine o.mono ?_;rintro v p ⟨rfl,rfl⟩;rw[RR];exact⟨Z,.refl _ _⟩
  cases f
 cases f
end Go.Proofs.YtdocmpeionacbaaGreatDoor
