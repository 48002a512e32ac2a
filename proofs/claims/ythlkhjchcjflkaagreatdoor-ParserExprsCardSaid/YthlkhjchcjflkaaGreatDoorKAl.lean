/- Part of the proof. -/
import Derived.Test.YthlkhjchcjflkaaGreatDoorKAj
import Derived.Test.YthlkhjchcjflkaaGreatDoorKAk
import Derived.Laws.StandIn
set_option linter.all false
set_option maxHeartbeats 16000000
set_option maxRecDepth 100000
open Nat renaming eq_of_beq_eq_true->Yl
namespace Go.Proofs.YthlkhjchcjflkaaGreatDoor
open Go.AM
open Go.RowKit (Below)
variable{a:Array Value} {c:Ren}
theorem Wm{g:Value}{l:List Value}(f:db c (g::l) a.toList):∃b e,a=(b::e).toArray/\dg c g b/\db c l e:=by
 obtain⟨i⟩:=a;cases f with
 |cons f h=>exact⟨_,_,rfl,f,h⟩
theorem Ez{h b:Value}(f:flat h=true)(j:flat b=true)(k:db c [h,b] a.toList):a= #[h,b]:=by
 obtain⟨l,m,rfl,g,e⟩:=Wm k;cases e with
 |cons e i=>
  cases i;rw[qw f g,qw j e]
theorem cT(b:db c [] a.toList):a= #[]:=by
 obtain⟨e⟩:=a;cases b;rfl
theorem OD:ng C:=by
 intro o i t f p l m e;change ext o i=some t at f;unfold ext at f;split at f
 ·rename_i s k;have j:=Ez rfl rfl e;subst j;split at f
  ·cases f
  ·rename_i h;have h:k<256:=by
    have:Nat.ble (k+1) 256=true:=h;rw[Nat.ble_eq]at this;exact this
   split at f
   ·rename_i b;have b:=Yl b;subst b;cases f;refine⟨?_,.int _ _⟩;have g:=run_callFunc_extern (P:=Tryz.prog) Tryz.func240 (by kernel_rfl) (by kernel_rfl) (by kernel_rfl) (e:=Extern.BytealgIndexByte.indexByte) (by kernel_rfl) #[.string s,.int .u8 (.ofNat k)] m;rw[Lib.run_indexByteString]at g;rw[BX h];exact g
   ·split at f
    ·rename_i b;have b:=Yl b;subst b;cases f;refine⟨?_,.int _ _⟩;have g:=run_callFunc_extern (P:=Tryz.prog) Tryz.func261 (by kernel_rfl) (by kernel_rfl) (by kernel_rfl) (e:=Extern.BytealgCount.count) (by kernel_rfl) #[.string s,.int .u8 (.ofNat k)] m;rw[Lib.run_countString]at g;rw[I0 h];exact g
    ·cases f
 ·rename_i r q;have j:=Ez rfl rfl e;subst j;split at f
  ·rename_i b;have b:=Yl b;subst b;cases f;refine⟨?_,.int _ _⟩;have g:=run_callFunc_extern (P:=Tryz.prog) Tryz.func225 (by kernel_rfl) (by kernel_rfl) (by kernel_rfl) (e:=Extern.BytealgCompare.compare) (by kernel_rfl) #[.string r,.string q] m;rw[Lib.run_compareString]at g;rw[N6];exact g
  ·cases f
 ·cases f
def vk(b:World):Prop:=0<b.heap.size/\∃e,b.cell? ⟨0,0,none⟩=some (.int .i64 e)
variable{d:World}
theorem vk.below{b:World}(h:vk d)(f:Below d.heap.size d b):vk b:=by
 obtain⟨e,i,g⟩:=h;refine⟨Nat.lt_of_lt_of_le e f.size,i,?_⟩;rw[<-g];unfold World.cell?;simp only[f.block 0 e]
theorem GS(g:vk d):Aa C d d.heap.size GR:=by
 intro x i w e;unfold GR at e;split at e
 ·cases e
 ·rename_i f;have f:=Yl f;subst f;split at e
  ·rename_i s t;split at e
   ·rename_i k;cases e;refine .inl ⟨Z,fun p h v b j r=>?_⟩;have m:=Ez rfl rfl b;subst m;obtain⟨_,q,g⟩:=g.below j;have l:s.size<4294967281:=by
     have:Nat.ble (s.data.toList.length+1) 4294967281=true:=k;rw[Nat.ble_eq]at this;have u:=Lib.size_eq s;omega
    have n:=Any.strings_Contains {uT with} s t q v l g;refine n.mono ?_;rintro u o ⟨rfl,rfl⟩;rw[I1];exact⟨Z,.refl _ _⟩
   ·cases e
  ·cases e
end Go.Proofs.YthlkhjchcjflkaaGreatDoor
