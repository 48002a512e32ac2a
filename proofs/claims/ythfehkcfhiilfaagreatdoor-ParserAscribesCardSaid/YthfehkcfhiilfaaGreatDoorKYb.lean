/- The form of a node. -/
import Derived.Test.YthfehkcfhiilfaaGreatDoorKYa
namespace Go.Proofs.YthfehkcfhiilfaaGreatDoor
open Go.AM Go.VM
structure FlW (opt : Bool) (fields : List Fld) : Prop where
 name : ∀ x ∈ fields, isName x.1 = true
 srt : Srt (·.1) fields
 opt : opt = false -> ∀ x ∈ fields, x.2.2 = false
inductive NodeW : Ty -> Prop
 | base {k : Nat} (h : k <= 4) : NodeW (.mk k [] [] [] [])
 | list {t : Ty} : NodeW (.mk 5 [] [] [t] [])
 | rcd {fields : List Fld} (h : FlW false fields) : NodeW (.mk 6 [] [] [] fields)
 | vrt {fields : List Fld} (h : FlW false fields) : NodeW (.mk 7 [] [] [] fields)
 | func {t : Ty} {fields : List Fld} (h : FlW true fields) : NodeW (.mk 8 [] [] [t] fields)
 | ref {m n : List UInt8} {args : List Ty} (hm : m = [] ∨ isName m = true) (hn : isType n = true) : NodeW (.mk 10 m n args [])
theorem FlsD.nil_inv {f : D} (h : FlsD [] f) : f = .nils ∨ ∃ b o cap, f = .ps b o 7 cap [] := by
 cases h with
 | nil => exact .inl rfl
 | ps h => cases h; exact .inr ⟨_, _, _, rfl⟩
theorem ArgsD.nil_inv {a : D} (h : ArgsD [] a) : a = .nils := by
 cases h with
 | nil => rfl
 | ps h hne => cases h; exact absurd rfl hne
theorem ArgsD.one_inv {t : Ty} {a : D} (h : ArgsD [t] a) : ∃ b o cap d, a = .ps b o 5 cap [d] := by
 cases h with
 | ps h hne => cases h with | cons _ h => cases h; exact ⟨_, _, _, _, rfl⟩
theorem fl_len {k : Nat} {m n : List UInt8} {args : List Ty} {fields : List Fld} (hl : tsize (.mk k m n args fields) < 4294967296) : fields.length < 4294967296 /\ args.length < 4294967296 := by
 have h1 := tsizeL_len (partsF (.mk k m n args fields))
 rw [tsize_parts] at hl
 have h2 : (ftys fields).length = fields.length := by simp [ftys]
 rw [partsF, List.length_append, h2] at h1
 rw [partsF] at hl
 omega
set_option maxRecDepth 100000 in
set_option maxHeartbeats 4000000 in
theorem shaped_spec0 (t : Ty) (d : List D) (hd : TyD t d) (hw : NodeW t) (hl : tsize t < 4294967296) : VCall C intr0 F.syntax_shaped [.agg (d.map V.d)] [] fun r σ' => σ' = [] /\ r = .ret (boolV true) := by
 refine VCall.b1 nofz (fun _ => rfl) ?_
 cases hw with
 | base hk =>
  rename_i k
  cases hd with
  | mk ha hf =>
   obtain rfl := ha.nil_inv
   rcases hf.nil_inv with rfl | ⟨b, o, cap, rfl⟩
   ·have hk5 : k = 0 ∨ k = 1 ∨ k = 2 ∨ k = 3 ∨ k = 4 := by omega
    rcases hk5 with rfl | rfl | rfl | rfl | rfl
    ·repeat refine vni (by repeat' (first | exact trivial | exact rfl | refine vnf rfl ?_ | refine And.intro ?_ ?_)) ?_
     refine ctn rfl _ _ FlsD.nil (by decide) (fun x j hj => absurd hj (Nat.not_lt_zero _)) ?_
     refine VUpd.drop 0 ?_ ?_ ?_ ?_
     iterate 3 exact rfl
     exact VUpd.now rfl ⟨rfl, rfl⟩
    ·repeat refine vni (by repeat' (first | exact trivial | exact rfl | refine vnf rfl ?_ | refine And.intro ?_ ?_)) ?_
     refine ctn rfl _ _ FlsD.nil (by decide) (fun x j hj => absurd hj (Nat.not_lt_zero _)) ?_
     refine VUpd.drop 0 ?_ ?_ ?_ ?_
     iterate 3 exact rfl
     exact VUpd.now rfl ⟨rfl, rfl⟩
    ·repeat refine vni (by repeat' (first | exact trivial | exact rfl | refine vnf rfl ?_ | refine And.intro ?_ ?_)) ?_
     refine ctn rfl _ _ FlsD.nil (by decide) (fun x j hj => absurd hj (Nat.not_lt_zero _)) ?_
     refine VUpd.drop 0 ?_ ?_ ?_ ?_
     iterate 3 exact rfl
     exact VUpd.now rfl ⟨rfl, rfl⟩
    ·repeat refine vni (by repeat' (first | exact trivial | exact rfl | refine vnf rfl ?_ | refine And.intro ?_ ?_)) ?_
     refine ctn rfl _ _ FlsD.nil (by decide) (fun x j hj => absurd hj (Nat.not_lt_zero _)) ?_
     refine VUpd.drop 0 ?_ ?_ ?_ ?_
     iterate 3 exact rfl
     exact VUpd.now rfl ⟨rfl, rfl⟩
    ·repeat refine vni (by repeat' (first | exact trivial | exact rfl | refine vnf rfl ?_ | refine And.intro ?_ ?_)) ?_
     refine ctn rfl _ _ FlsD.nil (by decide) (fun x j hj => absurd hj (Nat.not_lt_zero _)) ?_
     refine VUpd.drop 0 ?_ ?_ ?_ ?_
     iterate 3 exact rfl
     exact VUpd.now rfl ⟨rfl, rfl⟩
   ·have hk5 : k = 0 ∨ k = 1 ∨ k = 2 ∨ k = 3 ∨ k = 4 := by omega
    rcases hk5 with rfl | rfl | rfl | rfl | rfl
    ·repeat refine vni (by repeat' (first | exact trivial | exact rfl | refine vnf rfl ?_ | refine And.intro ?_ ?_)) ?_
     refine ctn rfl _ _ (FlsD.ps .nil) (by decide) (fun x j hj => absurd hj (Nat.not_lt_zero _)) ?_
     refine VUpd.drop 0 ?_ ?_ ?_ ?_
     iterate 3 exact rfl
     exact VUpd.now rfl ⟨rfl, rfl⟩
    ·repeat refine vni (by repeat' (first | exact trivial | exact rfl | refine vnf rfl ?_ | refine And.intro ?_ ?_)) ?_
     refine ctn rfl _ _ (FlsD.ps .nil) (by decide) (fun x j hj => absurd hj (Nat.not_lt_zero _)) ?_
     refine VUpd.drop 0 ?_ ?_ ?_ ?_
     iterate 3 exact rfl
     exact VUpd.now rfl ⟨rfl, rfl⟩
    ·repeat refine vni (by repeat' (first | exact trivial | exact rfl | refine vnf rfl ?_ | refine And.intro ?_ ?_)) ?_
     refine ctn rfl _ _ (FlsD.ps .nil) (by decide) (fun x j hj => absurd hj (Nat.not_lt_zero _)) ?_
     refine VUpd.drop 0 ?_ ?_ ?_ ?_
     iterate 3 exact rfl
     exact VUpd.now rfl ⟨rfl, rfl⟩
    ·repeat refine vni (by repeat' (first | exact trivial | exact rfl | refine vnf rfl ?_ | refine And.intro ?_ ?_)) ?_
     refine ctn rfl _ _ (FlsD.ps .nil) (by decide) (fun x j hj => absurd hj (Nat.not_lt_zero _)) ?_
     refine VUpd.drop 0 ?_ ?_ ?_ ?_
     iterate 3 exact rfl
     exact VUpd.now rfl ⟨rfl, rfl⟩
    ·repeat refine vni (by repeat' (first | exact trivial | exact rfl | refine vnf rfl ?_ | refine And.intro ?_ ?_)) ?_
     refine ctn rfl _ _ (FlsD.ps .nil) (by decide) (fun x j hj => absurd hj (Nat.not_lt_zero _)) ?_
     refine VUpd.drop 0 ?_ ?_ ?_ ?_
     iterate 3 exact rfl
     exact VUpd.now rfl ⟨rfl, rfl⟩
 | list =>
  cases hd with
  | mk ha hf =>
   obtain ⟨b, o, cap, d, rfl⟩ := ha.one_inv
   rcases hf.nil_inv with rfl | ⟨b2, o2, cap2, rfl⟩
   ·repeat refine vni (by repeat' (first | exact trivial | exact rfl | refine vnf rfl ?_ | refine And.intro ?_ ?_)) ?_
    refine ctn rfl _ _ FlsD.nil (by decide) (fun x j hj => absurd hj (Nat.not_lt_zero _)) ?_
    refine VUpd.drop 0 ?_ ?_ ?_ ?_
    iterate 3 exact rfl
    exact VUpd.now rfl ⟨rfl, rfl⟩
   ·repeat refine vni (by repeat' (first | exact trivial | exact rfl | refine vnf rfl ?_ | refine And.intro ?_ ?_)) ?_
    refine ctn rfl _ _ (FlsD.ps .nil) (by decide) (fun x j hj => absurd hj (Nat.not_lt_zero _)) ?_
    refine VUpd.drop 0 ?_ ?_ ?_ ?_
    iterate 3 exact rfl
    exact VUpd.now rfl ⟨rfl, rfl⟩
 | rcd h =>
  cases hd with
  | mk ha hf =>
   obtain rfl := ha.nil_inv
   have ho := h.opt rfl
   have hfl := (fl_len hl).1
   cases hf with
   | nil =>
    repeat refine vni (by repeat' (first | exact trivial | exact rfl | refine vnf rfl ?_ | refine And.intro ?_ ?_)) ?_
    refine ctn rfl _ _ FlsD.nil (by decide) (fun x j hj => absurd hj (Nat.not_lt_zero _)) ?_
    refine VUpd.drop 0 ?_ ?_ ?_ ?_
    iterate 3 exact rfl
    exact VUpd.now rfl ⟨rfl, rfl⟩
   | ps hf =>
    repeat refine vni (by repeat' (first | exact trivial | exact rfl | refine vnf rfl ?_ | refine And.intro ?_ ?_)) ?_
    refine ctn rfl _ _ (FlsD.ps hf) (by omega) (fun x j hj _ e2 => fun hk => shaped1_spec x (by rw [<- e2, ho _ (List.getElem_mem hj)]; exact hk)) ?_
    refine VUpd.drop 0 ?_ ?_ ?_ ?_
    iterate 3 exact rfl
    exact VUpd.now rfl ⟨rfl, rfl⟩
 | vrt h =>
  cases hd with
  | mk ha hf =>
   obtain rfl := ha.nil_inv
   have ho := h.opt rfl
   have hfl := (fl_len hl).1
   cases hf with
   | nil =>
    repeat refine vni (by repeat' (first | exact trivial | exact rfl | refine vnf rfl ?_ | refine And.intro ?_ ?_)) ?_
    refine ctn rfl _ _ FlsD.nil (by decide) (fun x j hj => absurd hj (Nat.not_lt_zero _)) ?_
    refine VUpd.drop 0 ?_ ?_ ?_ ?_
    iterate 3 exact rfl
    exact VUpd.now rfl ⟨rfl, rfl⟩
   | ps hf =>
    repeat refine vni (by repeat' (first | exact trivial | exact rfl | refine vnf rfl ?_ | refine And.intro ?_ ?_)) ?_
    refine ctn rfl _ _ (FlsD.ps hf) (by omega) (fun x j hj _ e2 => fun hk => shaped1_spec x (by rw [<- e2, ho _ (List.getElem_mem hj)]; exact hk)) ?_
    refine VUpd.drop 0 ?_ ?_ ?_ ?_
    iterate 3 exact rfl
    exact VUpd.now rfl ⟨rfl, rfl⟩
 | func h =>
  cases hd with
  | mk ha hf =>
   obtain ⟨b, o, cap, d, rfl⟩ := ha.one_inv
   cases hf with
   | nil =>
    repeat refine vni (by repeat' (first | exact trivial | exact rfl | refine vnf rfl ?_ | refine And.intro ?_ ?_)) ?_
    refine VUpd.drop 0 ?_ ?_ ?_ ?_
    iterate 3 exact rfl
    exact VUpd.now rfl ⟨rfl, rfl⟩
   | ps hf =>
    repeat refine vni (by repeat' (first | exact trivial | exact rfl | refine vnf rfl ?_ | refine And.intro ?_ ?_)) ?_
    refine VUpd.drop 0 ?_ ?_ ?_ ?_
    iterate 3 exact rfl
    exact VUpd.now rfl ⟨rfl, rfl⟩
 | ref hm hn =>
  cases hd with
  | mk ha hf =>
   cases ha with
   | nil =>
    rcases hf.nil_inv with rfl | ⟨b2, o2, cap2, rfl⟩
    ·repeat refine vni (by repeat' (first | exact trivial | exact rfl | refine vnf rfl ?_ | refine And.intro ?_ ?_)) ?_
     refine ctn rfl _ _ FlsD.nil (by decide) (fun x j hj => absurd hj (Nat.not_lt_zero _)) ?_
     refine VUpd.drop 0 ?_ ?_ ?_ ?_
     iterate 3 exact rfl
     exact VUpd.now rfl ⟨rfl, rfl⟩
    ·repeat refine vni (by repeat' (first | exact trivial | exact rfl | refine vnf rfl ?_ | refine And.intro ?_ ?_)) ?_
     refine ctn rfl _ _ (FlsD.ps .nil) (by decide) (fun x j hj => absurd hj (Nat.not_lt_zero _)) ?_
     refine VUpd.drop 0 ?_ ?_ ?_ ?_
     iterate 3 exact rfl
     exact VUpd.now rfl ⟨rfl, rfl⟩
   | ps ha hne =>
    rcases hf.nil_inv with rfl | ⟨b2, o2, cap2, rfl⟩
    ·repeat refine vni (by repeat' (first | exact trivial | exact rfl | refine vnf rfl ?_ | refine And.intro ?_ ?_)) ?_
     refine ctn rfl _ _ FlsD.nil (by decide) (fun x j hj => absurd hj (Nat.not_lt_zero _)) ?_
     refine VUpd.drop 0 ?_ ?_ ?_ ?_
     iterate 3 exact rfl
     exact VUpd.now rfl ⟨rfl, rfl⟩
    ·repeat refine vni (by repeat' (first | exact trivial | exact rfl | refine vnf rfl ?_ | refine And.intro ?_ ?_)) ?_
     refine ctn rfl _ _ (FlsD.ps .nil) (by decide) (fun x j hj => absurd hj (Nat.not_lt_zero _)) ?_
     refine VUpd.drop 0 ?_ ?_ ?_ ?_
     iterate 3 exact rfl
     exact VUpd.now rfl ⟨rfl, rfl⟩
end Go.Proofs.YthfehkcfhiilfaaGreatDoor
