/- The bodies of the program. -/
import Derived.Test.YthfehkcfhiilfaaGreatDoorKT2
namespace Go.Proofs.YthfehkcfhiilfaaGreatDoor
open Go.AM
noncomputable def allB : Tr FI -> Bool
 | .nil => true
 | .node v l r => (match v with | some fi => codeOk fi.body | none => true) && allB l && allB r
theorem bodiesB : allB ff = true := by kernel_rfl
theorem allB_each : ∀ (t : Tr FI) (mul add : Nat), allB t = true -> Tr.Each (fun _ fi => codeOk fi.body = true) mul add t := by
 intro t
 induction t with
 | nil => intro mul add h; trivial
 | node v l r ihl ihr =>
  intro mul add h
  simp only [allB, Bool.and_eq_true] at h
  refine ⟨?_, ihl _ _ h.1.2, ihr _ _ h.2⟩
  cases v with
  | none => trivial
  | some fi => exact h.1.1
theorem bodies (f : FuncId) (fi : FI) (h : C.ff.get f = some fi) : codeOk fi.body = true := (allB_each ff 1 0 bodiesB).get h
end Go.Proofs.YthfehkcfhiilfaaGreatDoor
