/- CheckType in the reference. -/
import Derived.Test.YtifncjhjnjldmaaGreatDoorKGa
import Derived.Test.YtifncjhjnjldmaaGreatDoorKYc
import Derived.Test.YtifncjhjnjldmaaGreatDoorKFa
namespace Go.Proofs.YtifncjhjnjldmaaGreatDoor set_option linter.unusedSimpArgs false set_option linter.unusedVariables false
open Go.AM Go.VM
theorem neighbours_spec (a b : List UInt8) (h : bytesLt a b = true) {σ : VS} {K : VCR -> VS -> Prop} (hk : K (.ret (intV 0)) σ) : VCall C intr0 F.modcertref04_neighbours [strV a, strV b] σ K := by
 have h1 : a ≠ b := by rintro rfl; rw [blt_ir] at h; cases h
 have h2 : bytesLt b a = false := by
  cases hb : bytesLt b a with
  | false => rfl
  | true => have := blt_tr _ _ _ h hb; rw [blt_ir] at this; cases this
 refine VCall.b0 nofz (fun _ => rfl) ?_
 refine vcn (decide_eq_false h1) ?_
 refine vcn (by rw [h]; rfl) ?_
 exact hk
theorem rmodule_spec (s : List UInt8) (h : s = [] ∨ isName s = true) {σ : VS} {K : VCR -> VS -> Prop} (hk : K (.ret (boolV true)) σ) : VCall C intr0 F.modcertref04_module [strV s] σ K := by
 refine VCall.b0 nofz (fun _ => rfl) ?_
 by_cases hne : s = []
 ·subst hne
  exact hk
 ·have h := h.resolve_left hne
  repeat refine vcn (decide_eq_false hne) ?_
  refine r_isName_spec s (name_len h) ?_
  rw [h]
  repeat refine vcn (decide_eq_false hne) ?_
  exact hk
set_option maxRecDepth 100000 in
set_option maxHeartbeats 8000000 in
theorem rnode_spec0 (t : Ty) (d : List D) (hd : TyD t d) (hw : NodeW t) (hl : tsize t < 4294967296) : VCall C intr0 F.modcertref04_typeNode [.agg (d.map V.d)] [] fun r σ' => σ' = [] /\ r = .ret (intV (errN (bigN t))) := by
 refine VCall.b1 nofz (fun _ => rfl) ?_
 cases hw with
 | base hk =>
  rename_i k
  cases hd with
  | mk ha hf =>
   obtain rfl := ha.nil_inv
   have hk5 : k = 0 ∨ k = 1 ∨ k = 2 ∨ k = 3 ∨ k = 4 := by omega
   rcases hk5 with rfl | rfl | rfl | rfl | rfl
   ·rcases hf.nil_inv with rfl | ⟨b2, o2, cap2, rfl⟩
    ·refine VCode.loop ?_
     refine VCode.loop ?_
     refine VCode.loop ?_
     refine VUpd.drop 0 ?_ ?_ ?_ ?_
     iterate 3 exact rfl
     refine VUpd.now rfl ⟨rfl, rfl⟩
    ·refine VCode.loop ?_
     refine VCode.loop ?_
     refine VCode.loop ?_
     refine VUpd.drop 0 ?_ ?_ ?_ ?_
     iterate 3 exact rfl
     refine VUpd.now rfl ⟨rfl, rfl⟩
   ·rcases hf.nil_inv with rfl | ⟨b2, o2, cap2, rfl⟩
    ·refine VCode.loop ?_
     refine VCode.loop ?_
     refine VCode.loop ?_
     refine VUpd.drop 0 ?_ ?_ ?_ ?_
     iterate 3 exact rfl
     refine VUpd.now rfl ⟨rfl, rfl⟩
    ·refine VCode.loop ?_
     refine VCode.loop ?_
     refine VCode.loop ?_
     refine VUpd.drop 0 ?_ ?_ ?_ ?_
     iterate 3 exact rfl
     refine VUpd.now rfl ⟨rfl, rfl⟩
   ·rcases hf.nil_inv with rfl | ⟨b2, o2, cap2, rfl⟩
    ·refine VCode.loop ?_
     refine VCode.loop ?_
     refine VCode.loop ?_
     refine VUpd.drop 0 ?_ ?_ ?_ ?_
     iterate 3 exact rfl
     refine VUpd.now rfl ⟨rfl, rfl⟩
    ·refine VCode.loop ?_
     refine VCode.loop ?_
     refine VCode.loop ?_
     refine VUpd.drop 0 ?_ ?_ ?_ ?_
     iterate 3 exact rfl
     refine VUpd.now rfl ⟨rfl, rfl⟩
   ·rcases hf.nil_inv with rfl | ⟨b2, o2, cap2, rfl⟩
    ·refine VCode.loop ?_
     refine VCode.loop ?_
     refine VCode.loop ?_
     refine VUpd.drop 0 ?_ ?_ ?_ ?_
     iterate 3 exact rfl
     refine VUpd.now rfl ⟨rfl, rfl⟩
    ·refine VCode.loop ?_
     refine VCode.loop ?_
     refine VCode.loop ?_
     refine VUpd.drop 0 ?_ ?_ ?_ ?_
     iterate 3 exact rfl
     refine VUpd.now rfl ⟨rfl, rfl⟩
   ·rcases hf.nil_inv with rfl | ⟨b2, o2, cap2, rfl⟩
    ·refine VCode.loop ?_
     refine VCode.loop ?_
     refine VCode.loop ?_
     refine VUpd.drop 0 ?_ ?_ ?_ ?_
     iterate 3 exact rfl
     refine VUpd.now rfl ⟨rfl, rfl⟩
    ·refine VCode.loop ?_
     refine VCode.loop ?_
     refine VCode.loop ?_
     refine VUpd.drop 0 ?_ ?_ ?_ ?_
     iterate 3 exact rfl
     refine VUpd.now rfl ⟨rfl, rfl⟩
 | list =>
  cases hd with
  | mk ha hf =>
   obtain ⟨b, o, cap, d, rfl⟩ := ha.one_inv
   rcases hf.nil_inv with rfl | ⟨b2, o2, cap2, rfl⟩
   ·refine VCode.loop ?_
    refine VCode.loop ?_
    refine VCode.loop ?_
    refine VUpd.drop 0 ?_ ?_ ?_ ?_
    iterate 3 exact rfl
    refine VUpd.now rfl ⟨rfl, rfl⟩
   ·refine VCode.loop ?_
    refine VCode.loop ?_
    refine VCode.loop ?_
    refine VUpd.drop 0 ?_ ?_ ?_ ?_
    iterate 3 exact rfl
    refine VUpd.now rfl ⟨rfl, rfl⟩
 | rcd h =>
  rename_i fields
  have hopt := h.opt rfl
  cases hd with
  | mk ha hf =>
   obtain rfl := ha.nil_inv
   cases hf with
   | nil =>
    refine VCode.loop ?_
    refine VCode.loop ?_
    refine VCode.loop ?_
    refine VUpd.drop 0 ?_ ?_ ?_ ?_
    iterate 3 exact rfl
    refine VUpd.now rfl ⟨rfl, rfl⟩
   | ps hf =>
    rename_i b2 o2 cap2 fels
    have hfl := hf.len
    have hfn := (fl_len hl).1
    refine VCode.less (tm0 := [(1, .bp 0 0), (5, intV 0)]) ⟨rfl, rfl, trivial⟩ ?_
    refine VCode.iter (fun i : Nat => [(1, .bp 0 0), (5, intV i)]) (fun _ => [.box (tyV 6 [] [] .nils (.ps b2 o2 7 cap2 fels))]) (fun i => fields.length - i) (fun i => i <= fields.length) ?_ 0 (Nat.zero_le _)
    intro i hi
    refine vci (fun hc => ?_) (fun hc => ?_)
    ·have hi' : i < fields.length := hfl ▸ dlt hc
     obtain ⟨x, hx, hxn, hxo, hxt⟩ := hf.get hi'
     refine vnf rfl ?_
     refine exf (fe x) (by rw [nth_eq]; exact hx) ?_
     have hop := hopt _ (List.getElem_mem hi')
     rw [hxo] at hop
     repeat (change vcond _ _ _; first | refine vcn (by with_reducible exact hop) ?_)
     refine ⟨i + 1, hi', by show fields.length - (i + 1) < fields.length - i; omega, .same ⟨rfl, int_eq (wrap_succ (by omega)), trivial⟩ rfl, rfl, rfl⟩
    ·have hi' : fields.length <= i := hfl ▸ dnlt hc
     clear hc hi' hi
     refine vci (fun hc => ?_) (fun hc => ?_)
     ·have hc' : 32 < fields.length := hfl ▸ dlt (a := 32) hc
      repeat (change vcond _ _ _; first | refine vcp (by with_reducible exact hc) ?_)
      refine VUpd.drop 0 ?_ ?_ ?_ ?_
      iterate 3 exact rfl
      refine VUpd.now rfl ⟨rfl, by rw [bigN, decide_eq_true hc']; rfl⟩
     ·have hc' : fields.length <= 32 := hfl ▸ dnlt (a := 32) hc
      repeat (change vcond _ _ _; first | refine vcn (by with_reducible exact hc) ?_)
      have hbg : bigN (.mk 6 [] [] [] fields) = false := by rw [bigN, decide_eq_false (by omega)]; rfl
      rw [hbg]
      refine VCode.less (tm0 := [(1, .bp 0 0), (6, intV 0)]) ⟨rfl, rfl, trivial⟩ ?_
      refine VCode.iter (fun i : Nat => [(1, .bp 0 0), (6, intV i)]) (fun _ => [.box (tyV 6 [] [] .nils (.ps b2 o2 7 cap2 fels))]) (fun i => fields.length - i) (fun i => i <= fields.length) ?_ 0 (Nat.zero_le _)
      intro i hi
      refine vci (fun hc => ?_) (fun hc => ?_)
      ·have hi' : i < fields.length := hfl ▸ dlt hc
       obtain ⟨x, hx, hxn, hxo, hxt⟩ := hf.get hi'
       have hnm := h.name _ (List.getElem_mem hi')
       rw [hxn] at hnm
       refine vnf rfl ?_
       refine exf (fe x) (by rw [nth_eq]; exact hx) ?_
       refine r_isName_spec x.n (name_len hnm) ?_
       rw [hnm]
       refine ⟨i + 1, hi', by show fields.length - (i + 1) < fields.length - i; omega, .same ⟨rfl, int_eq (wrap_succ (by omega)), trivial⟩ rfl, rfl, rfl⟩
      ·clear hc hi
       refine VCode.less (tm0 := [(1, .bp 0 0), (7, intV 1)]) ⟨rfl, rfl, trivial⟩ ?_
       refine VCode.iter (fun i : Nat => [(1, .bp 0 0), (7, intV i)]) (fun _ => [.box (tyV 6 [] [] .nils (.ps b2 o2 7 cap2 fels))]) (fun i => fields.length - i) (fun i => 1 <= i) ?_ 1 (Nat.le_refl _)
       intro i hi
       refine vci (fun hc => ?_) (fun hc => ?_)
       ·have hi' : i < fields.length := hfl ▸ dlt hc
        have hi0 : i - 1 < fields.length := by omega
        obtain ⟨x, hx, hxn, hxo, hxt⟩ := hf.get hi0
        obtain ⟨y, hy, hyn, hyo, hyt⟩ := hf.get hi'
        have hlt := h.srt.lt_of_lt (List.getElem?_eq_getElem hi0) (List.getElem?_eq_getElem hi') (by omega)
        rw [hxn, hyn] at hlt
        have hx1 : nth fels (i - 1) = some (fe x) := by rw [nth_eq]; exact hx
        have hy1 : nth fels i = some (fe y) := by rw [nth_eq]; exact hy
        have hwp := wrap_pred (a := i) (by omega) (by omega)
        repeat first | refine vnf hwp ?_ | refine vnf rfl ?_ | refine exf _ hx1 ?_ | refine exf _ hy1 ?_
        repeat refine vni (by repeat' (first | exact trivial | exact rfl | refine vnf rfl ?_ | refine vnf hwp ?_ | refine vnf rfl ?_ | refine exf _ hx1 ?_ | refine exf _ hy1 ?_ | refine And.intro ?_ ?_)) ?_
        refine neighbours_spec x.n y.n hlt ?_
        repeat refine vni (by repeat' (first | exact trivial | exact rfl | refine vnf rfl ?_ | refine vnf hwp ?_ | refine vnf rfl ?_ | refine exf _ hx1 ?_ | refine exf _ hy1 ?_ | refine And.intro ?_ ?_)) ?_
        refine ⟨i + 1, by show 1 <= i + 1; omega, by show fields.length - (i + 1) < fields.length - i; omega, .same ⟨rfl, int_eq (wrap_succ (by omega)), trivial⟩ rfl, rfl, rfl⟩
       ·refine VUpd.drop 0 ?_ ?_ ?_ ?_
        iterate 3 exact rfl
        refine VUpd.now rfl ⟨rfl, rfl⟩
 | vrt h =>
  rename_i fields
  have hopt := h.opt rfl
  cases hd with
  | mk ha hf =>
   obtain rfl := ha.nil_inv
   cases hf with
   | nil =>
    refine VCode.loop ?_
    refine VCode.loop ?_
    refine VCode.loop ?_
    refine VUpd.drop 0 ?_ ?_ ?_ ?_
    iterate 3 exact rfl
    refine VUpd.now rfl ⟨rfl, rfl⟩
   | ps hf =>
    rename_i b2 o2 cap2 fels
    have hfl := hf.len
    have hfn := (fl_len hl).1
    refine VCode.less (tm0 := [(1, .bp 0 0), (5, intV 0)]) ⟨rfl, rfl, trivial⟩ ?_
    refine VCode.iter (fun i : Nat => [(1, .bp 0 0), (5, intV i)]) (fun _ => [.box (tyV 7 [] [] .nils (.ps b2 o2 7 cap2 fels))]) (fun i => fields.length - i) (fun i => i <= fields.length) ?_ 0 (Nat.zero_le _)
    intro i hi
    refine vci (fun hc => ?_) (fun hc => ?_)
    ·have hi' : i < fields.length := hfl ▸ dlt hc
     obtain ⟨x, hx, hxn, hxo, hxt⟩ := hf.get hi'
     refine vnf rfl ?_
     refine exf (fe x) (by rw [nth_eq]; exact hx) ?_
     have hop := hopt _ (List.getElem_mem hi')
     rw [hxo] at hop
     repeat (change vcond _ _ _; first | refine vcn (by with_reducible exact hop) ?_)
     refine ⟨i + 1, hi', by show fields.length - (i + 1) < fields.length - i; omega, .same ⟨rfl, int_eq (wrap_succ (by omega)), trivial⟩ rfl, rfl, rfl⟩
    ·have hi' : fields.length <= i := hfl ▸ dnlt hc
     clear hc hi' hi
     refine vci (fun hc => ?_) (fun hc => ?_)
     ·have hc' : 32 < fields.length := hfl ▸ dlt (a := 32) hc
      repeat (change vcond _ _ _; first | refine vcp (by with_reducible exact hc) ?_)
      refine VUpd.drop 0 ?_ ?_ ?_ ?_
      iterate 3 exact rfl
      refine VUpd.now rfl ⟨rfl, by rw [bigN, decide_eq_true hc']; rfl⟩
     ·have hc' : fields.length <= 32 := hfl ▸ dnlt (a := 32) hc
      repeat (change vcond _ _ _; first | refine vcn (by with_reducible exact hc) ?_)
      have hbg : bigN (.mk 7 [] [] [] fields) = false := by rw [bigN, decide_eq_false (by omega)]; rfl
      rw [hbg]
      refine VCode.less (tm0 := [(1, .bp 0 0), (6, intV 0)]) ⟨rfl, rfl, trivial⟩ ?_
      refine VCode.iter (fun i : Nat => [(1, .bp 0 0), (6, intV i)]) (fun _ => [.box (tyV 7 [] [] .nils (.ps b2 o2 7 cap2 fels))]) (fun i => fields.length - i) (fun i => i <= fields.length) ?_ 0 (Nat.zero_le _)
      intro i hi
      refine vci (fun hc => ?_) (fun hc => ?_)
      ·have hi' : i < fields.length := hfl ▸ dlt hc
       obtain ⟨x, hx, hxn, hxo, hxt⟩ := hf.get hi'
       have hnm := h.name _ (List.getElem_mem hi')
       rw [hxn] at hnm
       refine vnf rfl ?_
       refine exf (fe x) (by rw [nth_eq]; exact hx) ?_
       refine r_isName_spec x.n (name_len hnm) ?_
       rw [hnm]
       refine ⟨i + 1, hi', by show fields.length - (i + 1) < fields.length - i; omega, .same ⟨rfl, int_eq (wrap_succ (by omega)), trivial⟩ rfl, rfl, rfl⟩
      ·clear hc hi
       refine VCode.less (tm0 := [(1, .bp 0 0), (7, intV 1)]) ⟨rfl, rfl, trivial⟩ ?_
       refine VCode.iter (fun i : Nat => [(1, .bp 0 0), (7, intV i)]) (fun _ => [.box (tyV 7 [] [] .nils (.ps b2 o2 7 cap2 fels))]) (fun i => fields.length - i) (fun i => 1 <= i) ?_ 1 (Nat.le_refl _)
       intro i hi
       refine vci (fun hc => ?_) (fun hc => ?_)
       ·have hi' : i < fields.length := hfl ▸ dlt hc
        have hi0 : i - 1 < fields.length := by omega
        obtain ⟨x, hx, hxn, hxo, hxt⟩ := hf.get hi0
        obtain ⟨y, hy, hyn, hyo, hyt⟩ := hf.get hi'
        have hlt := h.srt.lt_of_lt (List.getElem?_eq_getElem hi0) (List.getElem?_eq_getElem hi') (by omega)
        rw [hxn, hyn] at hlt
        have hx1 : nth fels (i - 1) = some (fe x) := by rw [nth_eq]; exact hx
        have hy1 : nth fels i = some (fe y) := by rw [nth_eq]; exact hy
        have hwp := wrap_pred (a := i) (by omega) (by omega)
        repeat first | refine vnf hwp ?_ | refine vnf rfl ?_ | refine exf _ hx1 ?_ | refine exf _ hy1 ?_
        repeat refine vni (by repeat' (first | exact trivial | exact rfl | refine vnf rfl ?_ | refine vnf hwp ?_ | refine vnf rfl ?_ | refine exf _ hx1 ?_ | refine exf _ hy1 ?_ | refine And.intro ?_ ?_)) ?_
        refine neighbours_spec x.n y.n hlt ?_
        repeat refine vni (by repeat' (first | exact trivial | exact rfl | refine vnf rfl ?_ | refine vnf hwp ?_ | refine vnf rfl ?_ | refine exf _ hx1 ?_ | refine exf _ hy1 ?_ | refine And.intro ?_ ?_)) ?_
        refine ⟨i + 1, by show 1 <= i + 1; omega, by show fields.length - (i + 1) < fields.length - i; omega, .same ⟨rfl, int_eq (wrap_succ (by omega)), trivial⟩ rfl, rfl, rfl⟩
       ·refine VUpd.drop 0 ?_ ?_ ?_ ?_
        iterate 3 exact rfl
        refine VUpd.now rfl ⟨rfl, rfl⟩
 | func h =>
  rename_i ty fields
  cases hd with
  | mk ha hf =>
   obtain ⟨b, o, cap, d, rfl⟩ := ha.one_inv
   cases hf with
   | nil =>
    refine VCode.loop ?_
    refine VCode.loop ?_
    refine VCode.loop ?_
    refine VUpd.drop 0 ?_ ?_ ?_ ?_
    iterate 3 exact rfl
    refine VUpd.now rfl ⟨rfl, rfl⟩
   | ps hf =>
    rename_i b2 o2 cap2 fels
    have hfl := hf.len
    have hfn := (fl_len hl).1
    refine VCode.less (tm0 := [(1, .bp 0 0), (5, intV 0)]) ⟨rfl, rfl, trivial⟩ ?_
    refine VCode.iter (fun i : Nat => [(1, .bp 0 0), (5, intV i)]) (fun _ => [.box (tyV 8 [] [] (.ps b o 5 cap [d]) (.ps b2 o2 7 cap2 fels))]) (fun i => fields.length - i) (fun i => i <= fields.length) ?_ 0 (Nat.zero_le _)
    intro i hi
    refine vci (fun hc => ?_) (fun hc => ?_)
    ·have hi' : i < fields.length := hfl ▸ dlt hc
     obtain ⟨x, hx, hxn, hxo, hxt⟩ := hf.get hi'
     refine vnf rfl ?_
     refine exf (fe x) (by rw [nth_eq]; exact hx) ?_
     refine vci (fun ho => ?_) (fun ho => ?_)
     ·repeat (change vcond _ _ _; first | refine vcp (by with_reducible exact ho) ?_)
      refine ⟨i + 1, hi', by show fields.length - (i + 1) < fields.length - i; omega, .same ⟨rfl, int_eq (wrap_succ (by omega)), trivial⟩ rfl, rfl, rfl⟩
     ·repeat (change vcond _ _ _; first | refine vcn (by with_reducible exact ho) ?_)
      refine ⟨i + 1, hi', by show fields.length - (i + 1) < fields.length - i; omega, .same ⟨rfl, int_eq (wrap_succ (by omega)), trivial⟩ rfl, rfl, rfl⟩
    ·have hi' : fields.length <= i := hfl ▸ dnlt hc
     clear hc hi' hi
     refine vci (fun hc => ?_) (fun hc => ?_)
     ·have hc' : 32 < fields.length := hfl ▸ dlt (a := 32) hc
      repeat (change vcond _ _ _; first | refine vcp (by with_reducible exact hc) ?_)
      refine VUpd.drop 0 ?_ ?_ ?_ ?_
      iterate 3 exact rfl
      refine VUpd.now rfl ⟨rfl, by rw [bigN, decide_eq_true hc']; rfl⟩
     ·have hc' : fields.length <= 32 := hfl ▸ dnlt (a := 32) hc
      repeat (change vcond _ _ _; first | refine vcn (by with_reducible exact hc) ?_)
      have hbg : bigN (.mk 8 [] [] [ty] fields) = false := by rw [bigN, decide_eq_false (by omega)]; rfl
      rw [hbg]
      refine VCode.less (tm0 := [(1, .bp 0 0), (6, intV 0)]) ⟨rfl, rfl, trivial⟩ ?_
      refine VCode.iter (fun i : Nat => [(1, .bp 0 0), (6, intV i)]) (fun _ => [.box (tyV 8 [] [] (.ps b o 5 cap [d]) (.ps b2 o2 7 cap2 fels))]) (fun i => fields.length - i) (fun i => i <= fields.length) ?_ 0 (Nat.zero_le _)
      intro i hi
      refine vci (fun hc => ?_) (fun hc => ?_)
      ·have hi' : i < fields.length := hfl ▸ dlt hc
       obtain ⟨x, hx, hxn, hxo, hxt⟩ := hf.get hi'
       have hnm := h.name _ (List.getElem_mem hi')
       rw [hxn] at hnm
       refine vnf rfl ?_
       refine exf (fe x) (by rw [nth_eq]; exact hx) ?_
       refine r_isName_spec x.n (name_len hnm) ?_
       rw [hnm]
       refine ⟨i + 1, hi', by show fields.length - (i + 1) < fields.length - i; omega, .same ⟨rfl, int_eq (wrap_succ (by omega)), trivial⟩ rfl, rfl, rfl⟩
      ·clear hc hi
       refine VCode.less (tm0 := [(1, .bp 0 0), (7, intV 1)]) ⟨rfl, rfl, trivial⟩ ?_
       refine VCode.iter (fun i : Nat => [(1, .bp 0 0), (7, intV i)]) (fun _ => [.box (tyV 8 [] [] (.ps b o 5 cap [d]) (.ps b2 o2 7 cap2 fels))]) (fun i => fields.length - i) (fun i => 1 <= i) ?_ 1 (Nat.le_refl _)
       intro i hi
       refine vci (fun hc => ?_) (fun hc => ?_)
       ·have hi' : i < fields.length := hfl ▸ dlt hc
        have hi0 : i - 1 < fields.length := by omega
        obtain ⟨x, hx, hxn, hxo, hxt⟩ := hf.get hi0
        obtain ⟨y, hy, hyn, hyo, hyt⟩ := hf.get hi'
        have hlt := h.srt.lt_of_lt (List.getElem?_eq_getElem hi0) (List.getElem?_eq_getElem hi') (by omega)
        rw [hxn, hyn] at hlt
        have hx1 : nth fels (i - 1) = some (fe x) := by rw [nth_eq]; exact hx
        have hy1 : nth fels i = some (fe y) := by rw [nth_eq]; exact hy
        have hwp := wrap_pred (a := i) (by omega) (by omega)
        repeat first | refine vnf hwp ?_ | refine vnf rfl ?_ | refine exf _ hx1 ?_ | refine exf _ hy1 ?_
        repeat refine vni (by repeat' (first | exact trivial | exact rfl | refine vnf rfl ?_ | refine vnf hwp ?_ | refine vnf rfl ?_ | refine exf _ hx1 ?_ | refine exf _ hy1 ?_ | refine And.intro ?_ ?_)) ?_
        refine neighbours_spec x.n y.n hlt ?_
        repeat refine vni (by repeat' (first | exact trivial | exact rfl | refine vnf rfl ?_ | refine vnf hwp ?_ | refine vnf rfl ?_ | refine exf _ hx1 ?_ | refine exf _ hy1 ?_ | refine And.intro ?_ ?_)) ?_
        refine ⟨i + 1, by show 1 <= i + 1; omega, by show fields.length - (i + 1) < fields.length - i; omega, .same ⟨rfl, int_eq (wrap_succ (by omega)), trivial⟩ rfl, rfl, rfl⟩
       ·refine VUpd.drop 0 ?_ ?_ ?_ ?_
        iterate 3 exact rfl
        refine VUpd.now rfl ⟨rfl, rfl⟩
 | ref hm hn =>
  rename_i m n args
  have han := (fl_len hl).2
  cases hd with
  | mk ha hf =>
   cases ha with
   | nil =>
    rcases hf.nil_inv with rfl | ⟨b2, o2, cap2, rfl⟩
    ·refine VCode.loop ?_
     refine rmodule_spec m hm ?_
     refine r_isType_spec n (type_len hn) ?_
     rw [hn]
     refine VCode.loop ?_
     refine VCode.loop ?_
     refine VUpd.drop 0 ?_ ?_ ?_ ?_
     iterate 3 exact rfl
     refine VUpd.now rfl ⟨rfl, rfl⟩
    ·refine VCode.loop ?_
     refine rmodule_spec m hm ?_
     refine r_isType_spec n (type_len hn) ?_
     rw [hn]
     refine VCode.loop ?_
     refine VCode.loop ?_
     refine VUpd.drop 0 ?_ ?_ ?_ ?_
     iterate 3 exact rfl
     refine VUpd.now rfl ⟨rfl, rfl⟩
   | ps h hne =>
    rename_i b o cap els
    have hal := h.len
    rcases hf.nil_inv with rfl | ⟨b2, o2, cap2, rfl⟩
    ·refine VCode.loop ?_
     refine vci (fun hc => ?_) (fun hc => ?_)
     ·have hc' : 8 < args.length := hal ▸ dlt (a := 8) hc
      repeat (change vcond _ _ _; first | refine vcp (by with_reducible exact hc) ?_)
      refine VUpd.drop 0 ?_ ?_ ?_ ?_
      iterate 3 exact rfl
      refine VUpd.now rfl ⟨rfl, by rw [bigN, decide_eq_true hc', Bool.or_true]; rfl⟩
     ·have hc' : args.length <= 8 := hal ▸ dnlt (a := 8) hc
      have hbg : bigN (.mk 10 m n args []) = false := by rw [bigN, decide_eq_false (p := 8 < args.length) (by omega)]; rfl
      rw [hbg]
      repeat (change vcond _ _ _; first | refine vcn (by with_reducible exact hc) ?_)
      refine rmodule_spec m hm ?_
      refine r_isType_spec n (type_len hn) ?_
      rw [hn]
      refine VCode.loop ?_
      refine VCode.loop ?_
      refine VUpd.drop 0 ?_ ?_ ?_ ?_
      iterate 3 exact rfl
      refine VUpd.now rfl ⟨rfl, rfl⟩
    ·refine VCode.loop ?_
     refine vci (fun hc => ?_) (fun hc => ?_)
     ·have hc' : 8 < args.length := hal ▸ dlt (a := 8) hc
      repeat (change vcond _ _ _; first | refine vcp (by with_reducible exact hc) ?_)
      refine VUpd.drop 0 ?_ ?_ ?_ ?_
      iterate 3 exact rfl
      refine VUpd.now rfl ⟨rfl, by rw [bigN, decide_eq_true hc', Bool.or_true]; rfl⟩
     ·have hc' : args.length <= 8 := hal ▸ dnlt (a := 8) hc
      have hbg : bigN (.mk 10 m n args []) = false := by rw [bigN, decide_eq_false (p := 8 < args.length) (by omega)]; rfl
      rw [hbg]
      repeat (change vcond _ _ _; first | refine vcn (by with_reducible exact hc) ?_)
      refine rmodule_spec m hm ?_
      refine r_isType_spec n (type_len hn) ?_
      rw [hn]
      refine VCode.loop ?_
      refine VCode.loop ?_
      refine VUpd.drop 0 ?_ ?_ ?_ ?_
      iterate 3 exact rfl
      refine VUpd.now rfl ⟨rfl, rfl⟩
theorem rnode_spec (t : Ty) (d : List D) (hd : TyD t d) (hw : NodeW t) (hl : tsize t < 4294967296) {σ : VS} {K : VCR -> VS -> Prop} (hk : K (.ret (intV (errN (bigN t)))) σ) : VCall C intr0 F.modcertref04_typeNode [.agg (d.map V.d)] σ K := by
 have h0 := rnode_spec0 t d hd hw hl
 obtain ⟨k, m, nm, a, f, rfl⟩ := hd.five
 exact VCall.pure h0 rfl rfl hk
set_option maxHeartbeats 4000000 in
theorem rform_spec0 (n : Nat) (ih : ∀ (t : Ty) (d : List D), tsize t <= n -> TyD t d -> AllW t -> ∀ {σ : VS} {K : VCR -> VS -> Prop}, K (.ret (intV (errN (tbig t)))) σ -> VCall C intr0 F.modcertref04_typeForm [.agg (d.map V.d)] σ K)
  (t : Ty) (d : List D) (ht : tsize t <= n + 1) (hn : n < 4294967295) (hd : TyD t d) (hw : AllW t) : VCall C intr0 F.modcertref04_typeForm [.agg (d.map V.d)] [] fun r σ' => σ' = [] /\ r = .ret (intV (errN (tbig t))) := by
 obtain ⟨k, m, nm, a, f, rfl⟩ := hd.five
 have hsz := tsize_parts t
 cases hw with
 | mk hw hpw =>
 refine VCall.b1 nofz (fun _ => rfl) ?_
 refine rnode_spec t _ hd hw (by omega) ?_
 rw [tbig_parts]
 cases hb : bigN t with
 | true =>
  refine VUpd.drop 0 ?_ ?_ ?_ ?_
  iterate 3 exact rfl
  refine VUpd.now rfl ⟨rfl, rfl⟩
 | false =>
  rw [Bool.false_or]
  refine rparts_spec t _ hd (by omega) (fun d hs => ?_)
  have hpl : tsizeL (partsF t) <= n := by omega
  generalize partsF t = pl at hs hpl hpw
  have hll := tsizeL_len pl
  cases hs with
  | nil =>
   refine VCode.loop ?_
   refine VUpd.drop 0 ?_ ?_ ?_ ?_
   iterate 3 exact rfl
   refine VUpd.now rfl ⟨rfl, rfl⟩
  | ps h =>
   rename_i b o cap els
   have hel := h.len
   refine VCode.less (tm0 := [(4, .d (.ps b o 5 cap els)), (5, intV 0)]) ⟨rfl, rfl, trivial⟩ ?_
   refine VCode.iter (fun i : Nat => [(4, .d (.ps b o 5 cap els)), (5, intV i)]) (fun _ => [.box (tyV k m nm a f)]) (fun i => pl.length - i) (fun i => i <= pl.length /\ ∀ j (hj : j < pl.length), j < i -> tbig pl[j] = false) ?_ 0 ⟨Nat.zero_le _, fun j _ h => absurd h (Nat.not_lt_zero _)⟩
   rintro i ⟨hi, hno⟩
   refine vci (fun hc => ?_) (fun hc => ?_)
   ·have hi' : i < pl.length := hel ▸ dlt hc
    obtain ⟨d, hx, hxt⟩ := h.get hi'
    refine vnf rfl ?_
    obtain ⟨k2, m2, nm2, a2, f2, rfl⟩ := hxt.five
    refine exf _ (by rw [nth_eq]; exact hx) ?_
    have hmem : pl[i] ∈ pl := List.getElem_mem hi'
    have hle := tsizeL_mem hmem
    refine ih pl[i] _ (by omega) hxt (hpw _ hmem) ?_
    cases hbi : tbig pl[i] with
    | true =>
     rw [tbigL_true hmem hbi]
     refine VUpd.drop 0 ?_ ?_ ?_ ?_
     iterate 3 exact rfl
     refine VUpd.now rfl ⟨rfl, rfl⟩
    | false =>
     refine ⟨i + 1, ⟨hi', fun j hj h => ?_⟩, by show pl.length - (i + 1) < pl.length - i; omega, .drop 1 ⟨rfl, int_eq (wrap_succ (by omega)), trivial⟩ rfl rfl rfl rfl rfl rfl rfl, rfl, rfl⟩
     rcases Nat.lt_or_ge j i with h1 | h1
     ·exact hno j hj h1
     ·obtain rfl : j = i := by omega
      exact hbi
   ·have hi' : pl.length <= i := hel ▸ dnlt hc
    have hall : tbigL pl = false := tbigL_false.2 fun t ht => by
     obtain ⟨j, hj, rfl⟩ := List.getElem_of_mem ht
     exact hno j hj (by omega)
    rw [hall]
    refine VUpd.drop 0 ?_ ?_ ?_ ?_
    iterate 3 exact rfl
    refine VUpd.now rfl ⟨rfl, rfl⟩
theorem rform_spec : ∀ (n : Nat) (t : Ty) (d : List D), n < 4294967295 -> tsize t <= n -> TyD t d -> AllW t -> ∀ {σ : VS} {K : VCR -> VS -> Prop}, K (.ret (intV (errN (tbig t)))) σ -> VCall C intr0 F.modcertref04_typeForm [.agg (d.map V.d)] σ K := by
 intro n
 induction n with
 | zero => intro t d _ h; have := tsize_pos t; omega
 | succ n ih =>
  intro t d hn h hd hw σ K hk
  have h0 := rform_spec0 n (fun t d h1 h2 h3 => ih t d (by omega) h1 h2 h3) t d h (by omega) hd hw
  obtain ⟨k, m, nm, a, f, rfl⟩ := hd.five
  exact VCall.pure h0 rfl rfl hk
set_option maxHeartbeats 4000000 in
theorem rcheck_spec0 (t : Ty) (d : List D) (hd : TyD t d) (hw : AllW t) (hn : tsize t < 4294967295) : VCall C intr0 F.modcertref04_CheckType [.agg (d.map V.d)] [] fun r σ' => σ' = [] /\ r = .ret (intV (errN (badT t))) := by
 obtain ⟨k, m, nm, a, f, rfl⟩ := hd.five
 refine VCall.b1 nofz (fun _ => rfl) ?_
 refine rsize_spec _ t _ hn (Nat.le_refl _) hd ?_
 refine vci (fun h1 => ?_) (fun h1 => ?_)
 ·have h1' := dlt (a := 4096) h1
  repeat (change vcond _ _ _; first | refine vcp (by with_reducible exact h1) ?_)
  refine VUpd.drop 0 ?_ ?_ ?_ ?_
  iterate 3 exact rfl
  refine VUpd.now rfl ⟨rfl, by rw [badT, decide_eq_true h1', Bool.true_or, Bool.true_or]; rfl⟩
 ·have h1' := dnlt (a := 4096) h1
  repeat (change vcond _ _ _; first | refine vcn (by with_reducible exact h1) ?_)
  refine rdepth_spec _ t _ hn (Nat.le_refl _) hd ?_
  repeat (change vcond _ _ _; first | refine vcn (by with_reducible exact h1) ?_)
  refine vci (fun h2 => ?_) (fun h2 => ?_)
  ·have h2' := dlt (a := 32) h2
   repeat (change vcond _ _ _; first | refine vcp (by with_reducible exact h2) ?_)
   refine VUpd.drop 0 ?_ ?_ ?_ ?_
   iterate 3 exact rfl
   refine VUpd.now rfl ⟨rfl, by rw [badT, decide_eq_true h2', Bool.or_true, Bool.true_or]; rfl⟩
  ·have h2' := dnlt (a := 32) h2
   repeat (change vcond _ _ _; first | refine vcn (by with_reducible exact h2) ?_)
   have hbt : badT t = tbig t := by rw [badT, decide_eq_false (by omega), decide_eq_false (by omega)]; rfl
   rw [hbt]
   refine rform_spec _ t _ hn (Nat.le_refl _) hd hw ?_
   refine VUpd.drop 0 ?_ ?_ ?_ ?_
   iterate 3 exact rfl
   refine VUpd.now rfl ⟨rfl, rfl⟩
theorem rcheck_spec (t : Ty) (d : List D) (hd : TyD t d) (hw : AllW t) (hn : tsize t < 4294967295) {σ : VS} {K : VCR -> VS -> Prop} (hk : K (.ret (intV (errN (badT t)))) σ) : VCall C intr0 F.modcertref04_CheckType [.agg (d.map V.d)] σ K := by
 have h0 := rcheck_spec0 t d hd hw hn
 obtain ⟨k, m, nm, a, f, rfl⟩ := hd.five
 exact VCall.pure h0 rfl rfl hk
end Go.Proofs.YtifncjhjnjldmaaGreatDoor
