/- Part of the proof. -/
import Derived.Test.YtpejealjkmhkgaaGreatDoorBAf
import Derived.Test.YtpejealjkmhkgaaGreatDoorBAg
import Derived.Laws.StandIn
set_option linter.all false
set_option maxHeartbeats 16000000
set_option maxRecDepth 100000
open Nat renaming eq_of_beq_eq_true->agj
namespace Go.Proofs.YtpejealjkmhkgaaGreatDoor
open Go.AM
open Go.RowKit (Below)
variable{a:Array Value} {c:Ren}
theorem vs1{g:Value}{l:List Value}(f:cT c (g::l) a.toList):∃b e,a=(b::e).toArray/\cX c g b/\cT c l e:=by
 obtain⟨i⟩:=a;cases f with
 |cons f h=>exact⟨_,_,rfl,f,h⟩
theorem Ho{h b:Value}(f:flat h=true)(j:flat b=true)(k:cT c [h,b] a.toList):a= #[h,b]:=by
 obtain⟨l,m,rfl,g,e⟩:=vs1 k;cases e with
 |cons e i=>
  cases i;rw[rK f g,rK j e]
theorem cS(b:cT c [] a.toList):a= #[]:=by
 obtain⟨e⟩:=a;cases b;rfl
theorem Tf:nX C:=by
 intro o i t f p l m e;change ext o i=some t at f;unfold ext at f;split at f
 ·rename_i s k;have j:=Ho rfl rfl e;subst j;split at f
  ·cases f
  ·rename_i h;have h:k<256:=by
    have:Nat.ble (k+1) 256=true:=h;rw[Nat.ble_eq]at this;exact this
   split at f
   ·rename_i b;have b:=agj b;subst b;cases f;refine⟨?_,.int _ _⟩;have g:=run_callFunc_extern (P:=Tryz.prog) Tryz.func259 (by kernel_rfl) (by kernel_rfl) (by kernel_rfl) (e:=Extern.BytealgIndexByte.indexByte) (by kernel_rfl) #[.string s,.int .u8 (.ofNat k)] m;rw[Lib.run_indexByteString]at g;rw[Em h];exact g
   ·split at f
    ·rename_i b;have b:=agj b;subst b;cases f;refine⟨?_,.int _ _⟩;have g:=run_callFunc_extern (P:=Tryz.prog) Tryz.func287 (by kernel_rfl) (by kernel_rfl) (by kernel_rfl) (e:=Extern.BytealgCount.count) (by kernel_rfl) #[.string s,.int .u8 (.ofNat k)] m;rw[Lib.run_countString]at g;rw[LP h];exact g
    ·cases f
 ·rename_i r q;have j:=Ho rfl rfl e;subst j;split at f
  ·rename_i b;have b:=agj b;subst b;cases f;refine⟨?_,.int _ _⟩;have g:=run_callFunc_extern (P:=Tryz.prog) Tryz.func273 (by kernel_rfl) (by kernel_rfl) (by kernel_rfl) (e:=Extern.BytealgCompare.compare) (by kernel_rfl) #[.string r,.string q] m;rw[Lib.run_compareString]at g;rw[SL];exact g
  ·cases f
 ·cases f
def xF(b:World):Prop:=0<b.heap.size/\∃e,b.cell? ⟨0,0,none⟩=some (.int .i64 e)
variable{d:World}
theorem xF.below{b:World}(h:xF d)(f:Below d.heap.size d b):xF b:=by
 obtain⟨e,i,g⟩:=h;refine⟨Nat.lt_of_lt_of_le e f.size,i,?_⟩;rw[<-g];unfold World.cell?;simp only[f.block 0 e]
theorem JD(g:xF d):CF C d d.heap.size JC:=by
 intro x i w e;unfold JC at e;split at e
 ·cases e
 ·rename_i f;have f:=agj f;subst f;split at e
  ·rename_i s t;split at e
   ·rename_i k;cases e;refine .inl ⟨Z,fun p h v b j r=>?_⟩;have m:=Ho rfl rfl b;subst m;obtain⟨_,q,g⟩:=g.below j;have l:s.size<4294967281:=by
     have:Nat.ble (s.data.toList.length+1) 4294967281=true:=k;rw[Nat.ble_eq]at this;have u:=Lib.size_eq s;omega
    have n:=Any.strings_Contains {wN with} s t q v l g;refine n.mono ?_;rintro u o ⟨rfl,rfl⟩;rw[LQ];exact⟨Z,.refl _ _⟩
   ·cases e
  ·cases e
end Go.Proofs.YtpejealjkmhkgaaGreatDoor
