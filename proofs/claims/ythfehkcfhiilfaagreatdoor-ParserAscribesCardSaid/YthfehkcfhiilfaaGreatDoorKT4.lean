/- The functions that are taken by contract. -/
import Derived.Test.YthfehkcfhiilfaaGreatDoorKT3
import Derived.Test.YthfehkcfhiilfaaGreatDoorKShelf
import Derived.Laws.StandIn
namespace Go.Proofs.YthfehkcfhiilfaaGreatDoor
open Go.AM
open Go.RowKit (Below)
theorem vs1 {ρ : Ren} {a : Value} {l : List Value} {args' : Array Value} (h : VsRel ρ (a :: l) args'.toList) : ∃ a' l', args' = (a' :: l').toArray /\ VRel ρ a a' /\ VsRel ρ l l' := by
 obtain ⟨x⟩ := args'
 cases h with
 | cons h t => exact ⟨_, _, rfl, h, t⟩
theorem two_inv {ρ : Ren} {a b : Value} (ha : flat a = true) (hb : flat b = true) {args' : Array Value} (h : VsRel ρ [a, b] args'.toList) : args' = #[a, b] := by
 obtain ⟨a', l', rfl, h1, h2⟩ := vs1 h
 cases h2 with
 | cons h2 h3 =>
  cases h3
  rw [flat_inv ha h1, flat_inv hb h2]
theorem nil_inv {ρ : Ren} {args' : Array Value} (h : VsRel ρ [] args'.toList) : args' = #[] := by
 obtain ⟨x⟩ := args'
 cases h
 rfl
theorem ext_ok : ExtOk C := by
 intro f args v h ρ args' w hargs
 change ext f args = some v at h
 unfold ext at h
 split at h
 ·rename_i s c
  have ha := two_inv rfl rfl hargs
  subst ha
  split at h
  ·cases h
  ·rename_i hc
   have hc : c < 256 := by
    have : Nat.ble (c + 1) 256 = true := hc
    rw [Nat.ble_eq] at this; exact this
   split at h
   ·rename_i hf
    have hf := Nat.eq_of_beq_eq_true hf
    subst hf
    cases h
    refine ⟨?_, .int _ _⟩
    have e := run_callFunc_extern (P := Tryz.prog) Tryz.func174 (by kernel_rfl) (by kernel_rfl) (by kernel_rfl) (e := Extern.BytealgIndexByte.indexByte) (by kernel_rfl) #[.string s, .int .u8 (.ofNat c)] w
    rw [Lib.run_indexByteString] at e
    rw [indexByte_lib hc]
    exact e
   ·split at h
    ·rename_i hf
     have hf := Nat.eq_of_beq_eq_true hf
     subst hf
     cases h
     refine ⟨?_, .int _ _⟩
     have e := run_callFunc_extern (P := Tryz.prog) Tryz.func191 (by kernel_rfl) (by kernel_rfl) (by kernel_rfl) (e := Extern.BytealgCount.count) (by kernel_rfl) #[.string s, .int .u8 (.ofNat c)] w
     rw [Lib.run_countString] at e
     rw [countB_lib hc]
     exact e
    ·cases h
 ·rename_i a b
  have ha := two_inv rfl rfl hargs
  subst ha
  split at h
  ·rename_i hf
   have hf := Nat.eq_of_beq_eq_true hf
   subst hf
   cases h
   refine ⟨?_, .int _ _⟩
   have e := run_callFunc_extern (P := Tryz.prog) Tryz.func164 (by kernel_rfl) (by kernel_rfl) (by kernel_rfl) (e := Extern.BytealgCompare.compare) (by kernel_rfl) #[.string a, .string b] w
   rw [Lib.run_compareString] at e
   rw [cmpB_lib]
   exact e
  ·cases h
 ·cases h
def HasMax (w : World) : Prop := 0 < w.heap.size /\ ∃ m, w.cell? ⟨0, 0, none⟩ = some (.int .i64 m)
theorem HasMax.below {w w' : World} (h : HasMax w) (hb : Below w.heap.size w w') : HasMax w' := by
 obtain ⟨h0, m, hm⟩ := h
 refine ⟨Nat.lt_of_lt_of_le h0 hb.size, m, ?_⟩
 rw [<- hm]
 unfold World.cell?
 simp only [hb.block 0 h0]
theorem intrA_ok {w0 : World} (hm : HasMax w0) : IntrOk C w0 w0.heap.size intrA := by
 intro f args v h
 unfold intrA at h
 split at h
 ·cases h
 ·rename_i hf
  have hf := Nat.eq_of_beq_eq_true hf
  subst hf
  split at h
  ·rename_i s t
   split at h
   ·rename_i hl
    cases h
    refine ⟨rfl, fun ρ args' w hargs hb hN => ?_⟩
    have ha := two_inv rfl rfl hargs
    subst ha
    obtain ⟨_, m, hm⟩ := hm.below hb
    have hs : s.size < 4294967281 := by
     have : Nat.ble (s.data.toList.length + 1) 4294967281 = true := hl
     rw [Nat.ble_eq] at this
     have e := Lib.size_eq s
     omega
    have hc := Any.strings_Contains { Tryz.laysM144 with } s t m w hs hm
    refine hc.mono ?_
    rintro e w' ⟨rfl, rfl⟩
    rw [hasSub_lib]
    exact ⟨rfl, .refl _ _⟩
   ·cases h
  ·cases h
end Go.Proofs.YthfehkcfhiilfaaGreatDoor
