/- Depth of a type in the reference, and EqualTypes. -/
import Derived.Test.YthfehkcfhiilfaaGreatDoorKYa
namespace Go.Proofs.YthfehkcfhiilfaaGreatDoor set_option linter.unusedSimpArgs false set_option linter.unusedVariables false
open Go.AM Go.VM
def rpfz : Nat -> Bool := fun t => Nat.beq t 23
def rpS (c : List V) (els : List (List D)) : VS := [.box c, .row 5 (els.map fun d => d.map V.d)]
def rpT (x : Nat × List (List D)) : Tm := [(1, .bp 0 0), (3, .ms 1 5 0 x.2.length x.2.length), (4, intV x.1)]
theorem rp_grow {π : Nat -> Nat} (els : List (List D)) (d : List D) : some (VObj.row 5 (List.take els.length (List.drop 0 (List.map (fun d => List.map V.d d) els)) ++ [d.map V.d])) = some (renO π (.row 5 (List.map (fun d => List.map V.d d) (els ++ [d])))) := by
 rw [renO_d, List.drop_zero, List.take_of_length_le (by simp)]
 simp
theorem rp_out (i : Nat) (els : List (List D)) (d : List D) : some (V.ms i 5 0 (els.length + 1) (els.length + 1)) = some (V.ms i 5 0 (els ++ [d]).length (els ++ [d]).length) := by simp
theorem rp_out0 (i : Nat) (els : List (List D)) : some (V.ms i 5 0 (0 + (List.map (fun e => List.map V.d e) els).length) (0 + (List.map (fun e => List.map V.d e) els).length)) = some (V.ms i 5 0 els.length els.length) := by simp
set_option maxHeartbeats 4000000 in
theorem rparts_spec0 (k : Nat) (m n : List UInt8) (args : List Ty) (fields : List Fld) (a f : D) (ha : ArgsD args a) (hf : FlsD fields f) (hl : args.length + fields.length < 4294967296) :
  VCall C intr0 F.modcertref04_Parts [.agg (tyV k m n a f)] [] fun r σ' => σ' = [] /\ closedCR r = true /\ ∃ d, SlD (args ++ ftys fields) d /\ r = .ret (.d d) := by
 refine VCall.b1 rpfz (fun _ => rfl) ?_
 cases ha with
 | nil =>
  refine vni ⟨rfl, rfl, Nat.le_refl _, Nat.le_refl _, Nat.le_of_ble_eq_true rfl, Nat.le_of_ble_eq_true rfl⟩ ?_
  cases hf with
  | nil =>
   refine VCode.loop ?_
   refine part_end (els := []) 0 _ (by simp) ?_ ?_
   ·exact rfl
   ·simpa [ftys] using ArgsL.nil
  | ps hf =>
   rename_i b2 o2 cap2 fels
   have hfl := hf.len
   refine VCode.arr (tm0 := rpT (0, [])) (σ0 := rpS (tyV k m n .nils (.ps b2 o2 7 cap2 fels)) []) (.same ⟨rfl, rfl, rfl, trivial⟩ rfl) ?_
   refine VCode.iter rpT (fun x => rpS (tyV k m n .nils (.ps b2 o2 7 cap2 fels)) x.2) (fun x => fields.length - x.1) (fun x => x.1 <= fields.length /\ ArgsL ([] ++ ftys (fields.take x.1)) x.2) ?_ (0, []) ⟨Nat.zero_le _, by simpa [ftys] using ArgsL.nil⟩
   rintro ⟨j, acc⟩ ⟨hj, hacc⟩
   have hj : j <= fields.length := hj
   have hacc : ArgsL ([] ++ ftys (fields.take j)) acc := hacc
   have hcl := hacc.len
   rw [List.length_append, ftys, List.length_map, List.length_take] at hcl
   try simp only [List.length_nil] at hcl
   refine vci (fun hc => ?_) (fun hc => ?_)
   ·have hj' : j < fields.length := hfl ▸ dlt hc
    obtain ⟨x, hx, _, _, hxt⟩ := hf.get hj'
    have hacc' : ArgsL ([] ++ ftys (fields.take (j + 1))) (acc ++ [x.ty]) := by rw [ftys_take hj', <- List.append_assoc]; exact hacc.snoc hxt
    refine vnf rfl ?_
    refine exf (fe x) (by rw [nth_eq]; exact hx) ?_
    intro b3
    refine vni rfl (vni ⟨rfl, rfl, by simp, Nat.le_refl _, arg_fit2 (show acc.length <= 4294967296 by omega)⟩ ?_)
    refine vcn rfl (vcn (lit_full acc.length) ?_)
    refine ⟨(j + 1, acc ++ [x.ty]), ⟨hj', hacc'⟩, by show fields.length - (j + 1) < fields.length - j; omega, ?_, rfl, rfl⟩
    exact .pick 1 [0, 2] ⟨rfl, rp_out 2 acc x.ty, int_eq (wrap_succ (by omega)), trivial⟩ rfl rfl rfl rfl rfl (by decide) ⟨rfl, rfl, rp_grow acc x.ty, bdO_d _ _ _, trivial⟩
   ·have hj' : fields.length <= j := hfl ▸ dnlt hc
    rw [List.take_of_length_le hj'] at hacc
    exact part_end 0 acc.length rfl rfl hacc
 | ps h hne =>
  rename_i b o cap els
  cases els with
  | nil => exact absurd rfl hne
  | cons e0 r0 =>
   have hal := h.len
   have hrl0 : r0.length + 1 < 4294967296 := by simp only [List.length_cons] at hal; omega
   refine vni rfl (vni ⟨rfl, rfl, Nat.le_refl _, Nat.le_refl _, part_fit0 e0 r0 hrl0⟩ ?_)
   refine vcn rfl (vcn rfl ?_)
   cases hf with
   | nil =>
    refine VCode.loop ?_
    refine part_end (els := (e0 :: r0)) 1 _ (by simp) ?_ ?_
    ·exact rfl
    ·simpa [ftys] using h
   | ps hf =>
    rename_i b2 o2 cap2 fels
    have hfl := hf.len
    refine VCode.arr (tm0 := rpT (0, (e0 :: r0))) (σ0 := rpS (tyV k m n (.ps b o 5 cap (e0 :: r0)) (.ps b2 o2 7 cap2 fels)) (e0 :: r0)) (.pick 1 [0, 2] ⟨rfl, rp_out0 2 (e0 :: r0), rfl, trivial⟩ rfl rfl rfl rfl rfl (by decide) ⟨rfl, rfl, part_start e0 r0, bdO_d _ _ _, trivial⟩) ?_
    refine VCode.iter rpT (fun x => rpS (tyV k m n (.ps b o 5 cap (e0 :: r0)) (.ps b2 o2 7 cap2 fels)) x.2) (fun x => fields.length - x.1) (fun x => x.1 <= fields.length /\ ArgsL (args ++ ftys (fields.take x.1)) x.2) ?_ (0, (e0 :: r0)) ⟨Nat.zero_le _, by simpa [ftys] using h⟩
    rintro ⟨j, acc⟩ ⟨hj, hacc⟩
    have hj : j <= fields.length := hj
    have hacc : ArgsL (args ++ ftys (fields.take j)) acc := hacc
    have hcl := hacc.len
    rw [List.length_append, ftys, List.length_map, List.length_take] at hcl
    try simp only [List.length_nil] at hcl
    refine vci (fun hc => ?_) (fun hc => ?_)
    ·have hj' : j < fields.length := hfl ▸ dlt hc
     obtain ⟨x, hx, _, _, hxt⟩ := hf.get hj'
     have hacc' : ArgsL (args ++ ftys (fields.take (j + 1))) (acc ++ [x.ty]) := by rw [ftys_take hj', <- List.append_assoc]; exact hacc.snoc hxt
     refine vnf rfl ?_
     refine exf (fe x) (by rw [nth_eq]; exact hx) ?_
     intro b3
     refine vni rfl (vni ⟨rfl, rfl, by simp, Nat.le_refl _, arg_fit2 (show acc.length <= 4294967296 by omega)⟩ ?_)
     refine vcn rfl (vcn (lit_full acc.length) ?_)
     refine ⟨(j + 1, acc ++ [x.ty]), ⟨hj', hacc'⟩, by show fields.length - (j + 1) < fields.length - j; omega, ?_, rfl, rfl⟩
     exact .pick 1 [0, 2] ⟨rfl, rp_out 2 acc x.ty, int_eq (wrap_succ (by omega)), trivial⟩ rfl rfl rfl rfl rfl (by decide) ⟨rfl, rfl, rp_grow acc x.ty, bdO_d _ _ _, trivial⟩
    ·have hj' : fields.length <= j := hfl ▸ dnlt hc
     rw [List.take_of_length_le hj'] at hacc
     exact part_end 0 acc.length rfl rfl hacc
theorem rparts_spec (t : Ty) (d : List D) (hd : TyD t d) (hl : tsize t < 4294967296) {σ : VS} {K : VCR -> VS -> Prop} (hk : ∀ d, SlD (partsF t) d -> K (.ret (.d d)) σ) : VCall C intr0 F.modcertref04_Parts [.agg (d.map V.d)] σ K := by
 cases hd with
 | mk ha hf =>
  rename_i k m n args fields a f
  have h1 := tsizeL_len (partsF (.mk k m n args fields))
  rw [tsize_parts] at hl
  have h2 : (partsF (.mk k m n args fields)).length = args.length + fields.length := by simp [partsF, ftys]
  exact VCall.closed (P := fun r => ∃ d, SlD (args ++ ftys fields) d /\ r = .ret (.d d)) (rparts_spec0 k m n args fields a f ha hf (by omega)) rfl (fun r ⟨d, h, e⟩ => by rw [e]; exact hk d h)
set_option maxHeartbeats 4000000 in
theorem rdepth_spec0 (n : Nat) (ih : ∀ (t : Ty) (d : List D), tsize t <= n -> TyD t d -> ∀ {σ : VS} {K : VCR -> VS -> Prop}, K (.ret (intV (tdepth t))) σ -> VCall C intr0 F.modcertref04_TypeDepth [.agg (d.map V.d)] σ K)
  (t : Ty) (d : List D) (ht : tsize t <= n + 1) (hn : n < 4294967295) (hd : TyD t d) : VCall C intr0 F.modcertref04_TypeDepth [.agg (d.map V.d)] [] fun r σ' => σ' = [] /\ r = .ret (intV (tdepth t)) := by
 obtain ⟨k, m, nm, a, f, rfl⟩ := hd.five
 have hsz := tsize_parts t
 refine VCall.b1 nofz (fun _ => rfl) ?_
 refine rparts_spec t _ hd (by omega) (fun d hs => ?_)
 rw [tdepth_parts]
 have hpl : tsizeL (partsF t) <= n := by omega
 generalize partsF t = pl at hs hpl
 have hll := tsizeL_len pl
 cases hs with
 | nil =>
  refine VCode.loop ?_
  refine VUpd.drop 0 ?_ ?_ ?_ ?_
  iterate 3 exact rfl
  exact VUpd.now rfl ⟨rfl, rfl⟩
 | ps h =>
  rename_i b o cap els
  have hel := h.len
  refine VCode.less (tm0 := [(3, intV 0), (4, .d (.ps b o 5 cap els)), (5, intV 0)]) ⟨rfl, rfl, rfl, trivial⟩ ?_
  refine VCode.iter (fun i : Nat => [(3, intV (tdepthL (pl.take i))), (4, .d (.ps b o 5 cap els)), (5, intV i)]) (fun _ => [.box (tyV k m nm a f)]) (fun i => pl.length - i) (fun i => i <= pl.length) ?_ 0 (Nat.zero_le _)
  intro i hi
  refine vci (fun hc => ?_) (fun hc => ?_)
  ·have hi' : i < pl.length := hel ▸ dlt hc
   obtain ⟨d, hx, hxt⟩ := h.get hi'
   refine vnf rfl ?_
   obtain ⟨k2, m2, nm2, a2, f2, rfl⟩ := hxt.five
   refine exf _ (by rw [nth_eq]; exact hx) ?_
   have hle := tsizeL_mem (List.getElem_mem hi')
   refine ih pl[i] _ (by omega) hxt ?_
   refine ⟨i + 1, hi', by show pl.length - (i + 1) < pl.length - i; omega, .drop 1 ⟨int_eq ?_, rfl, int_eq (wrap_succ (by omega)), trivial⟩ rfl rfl rfl rfl rfl rfl rfl, rfl, rfl⟩
   rw [tdepthL_take hi']
   simp only [Int.ofNat_eq_natCast]
   omega
  ·have hi' : pl.length <= i := hel ▸ dnlt hc
   rw [List.take_of_length_le hi']
   have hdl := tdepthL_le pl
   refine VUpd.drop 0 ?_ ?_ ?_ ?_
   iterate 3 exact rfl
   refine VUpd.now rfl ⟨rfl, ?_⟩
   exact congrArg VCR.ret (congrArg V.d (congrArg (D.int .i64) (wrap_succ (by omega))))
set_option maxHeartbeats 4000000 in
theorem rdepth_spec : ∀ (n : Nat) (t : Ty) (d : List D), n < 4294967295 -> tsize t <= n -> TyD t d -> ∀ {σ : VS} {K : VCR -> VS -> Prop}, K (.ret (intV (tdepth t))) σ -> VCall C intr0 F.modcertref04_TypeDepth [.agg (d.map V.d)] σ K := by
 intro n
 induction n with
 | zero => intro t d _ h; have := tsize_pos t; omega
 | succ n ih =>
  intro t d hn h hd σ K hk
  obtain ⟨k, m, nm, a, f, rfl⟩ := hd.five
  exact VCall.pure (rdepth_spec0 n (fun t d h1 h2 => ih t d (by omega) h1 h2) t _ h (by omega) hd) rfl rfl hk
theorem nself (a : Nat) : (!decide (Int.ofNat a = Int.ofNat a)) = false := by simp
theorem nselfB (a : Bool) : (!decide (a = a)) = false := by simp
theorem nselfS (a : List UInt8) : (!decide (a = a)) = false := by simp
set_option maxHeartbeats 4000000 in
theorem eqtl_spec (n : Nat) (ih : ∀ (t : Ty) (d d' : List D), tsize t <= n -> TyD t d -> TyD t d' -> ∀ {σ : VS} {K : VCR -> VS -> Prop}, K (.ret (boolV true)) σ -> VCall C intr0 F.modcertref04_EqualTypes [.agg (d.map V.d), .agg (d'.map V.d)] σ K)
  (l : List Ty) (a a' : D) (hl : tsizeL l <= n) (hn : n < 4294967295) (ha : ArgsD l a) (ha' : ArgsD l a') {σ : VS} {K : VCR -> VS -> Prop} (hk : K (.ret (boolV true)) σ) : VCall C intr0 F.modcertref04_EqualTypeLists [.d a, .d a'] σ K := by
 refine VCall.b0 nofz (fun _ => rfl) ?_
 have hll := tsizeL_len l
 cases ha with
 | nil =>
  cases ha' with
  | ps h hne => cases h; exact absurd rfl hne
  | nil =>
   refine VCode.loop ?_
   exact hk
 | ps h hne =>
  cases ha' with
  | nil => cases h; exact absurd rfl hne
  | ps h' hne' =>
   rename_i b o cap els b' o' cap' els'
   have e1 := h.len
   have e2 := h'.len
   have he : (!decide (Int.ofNat els.length = Int.ofNat els'.length)) = false := by rw [e1, e2]; exact nself _
   refine vcn he ?_
   refine VCode.less (tm0 := [(0, .d (.ps b o 5 cap els)), (1, .d (.ps b' o' 5 cap' els')), (5, intV 0)]) ⟨rfl, rfl, rfl, trivial⟩ ?_
   refine VCode.iter (fun i : Nat => [(0, .d (.ps b o 5 cap els)), (1, .d (.ps b' o' 5 cap' els')), (5, intV i)]) (fun _ => σ) (fun i => l.length - i) (fun i => i <= l.length) ?_ 0 (Nat.zero_le _)
   intro i hi
   refine vci (fun hc => ?_) (fun hc => ?_)
   ·have hi' : i < l.length := e1 ▸ dlt hc
    obtain ⟨d, hx, hxt⟩ := h.get hi'
    obtain ⟨d', hx', hxt'⟩ := h'.get hi'
    have hle := tsizeL_mem (List.getElem_mem hi')
    obtain ⟨k2, m2, nm2, a2, f2, rfl⟩ := hxt.five
    obtain ⟨k3, m3, nm3, a3, f3, rfl⟩ := hxt'.five
    have hx1 : nth els i = some [.int .i64 (Int.ofNat k2), .str m2, .str nm2, a2, f2] := by rw [nth_eq]; exact hx
    have hx1' : nth els' i = some [.int .i64 (Int.ofNat k3), .str m3, .str nm3, a3, f3] := by rw [nth_eq]; exact hx'
    repeat first | refine vnf rfl ?_ | refine exf _ hx1 ?_ | refine exf _ hx1' ?_
    repeat refine vni (by repeat' (first | exact trivial | exact rfl | refine vnf rfl ?_ | refine vnf rfl ?_ | refine exf _ hx1 ?_ | refine exf _ hx1' ?_ | refine And.intro ?_ ?_)) ?_
    refine ih l[i] _ _ (by omega) hxt hxt' ?_
    repeat refine vni (by repeat' (first | exact trivial | exact rfl | refine vnf rfl ?_ | refine vnf rfl ?_ | refine exf _ hx1 ?_ | refine exf _ hx1' ?_ | refine And.intro ?_ ?_)) ?_
    refine ⟨i + 1, hi', by show l.length - (i + 1) < l.length - i; omega, .same ⟨rfl, rfl, int_eq (wrap_succ (by omega)), trivial⟩ rfl, rfl, rfl⟩
   ·have hi' : l.length <= i := e1 ▸ dnlt hc
    exact hk
set_option maxRecDepth 100000 in
set_option maxHeartbeats 8000000 in
theorem eqt_spec0 (n : Nat) (ih : ∀ (t : Ty) (d d' : List D), tsize t <= n -> TyD t d -> TyD t d' -> ∀ {σ : VS} {K : VCR -> VS -> Prop}, K (.ret (boolV true)) σ -> VCall C intr0 F.modcertref04_EqualTypes [.agg (d.map V.d), .agg (d'.map V.d)] σ K)
  (t : Ty) (d d' : List D) (ht : tsize t <= n + 1) (hn : n + 1 < 4294967295) (hd : TyD t d) (hd' : TyD t d') : VCall C intr0 F.modcertref04_EqualTypes [.agg (d.map V.d), .agg (d'.map V.d)] [] fun r σ' => σ' = [] /\ r = .ret (boolV true) := by
 cases hd with
 | mk ha hf =>
  rename_i k m nm args fields a f
  cases hd' with
  | mk ha' hf' =>
   rename_i a' f'
   have hsz : tsizeL args + tsizeF fields <= n := by simp only [tsize] at ht; omega
   have hfs := tsizeF_eq fields
   have hfn : fields.length <= tsizeL (ftys fields) := by have := tsizeL_len (ftys fields); rwa [show (ftys fields).length = fields.length from by simp [ftys]] at this
   refine VCall.b1 nofz (fun _ => rfl) ?_
   repeat first | refine vcn (nself _) ?_ | refine vcn (nselfS _) ?_ | refine vcn (nselfB _) ?_
   cases hf with
   | nil =>
    cases hf' with
    | nil =>
     repeat first | refine vcn (nself _) ?_ | refine vcn (nselfS _) ?_ | refine vcn (nselfB _) ?_
     refine VCode.loop ?_
     refine eqtl_spec n ih args a a' (by omega) (by omega) ha ha' ?_
     refine VUpd.drop 0 ?_ ?_ ?_ ?_
     iterate 3 exact rfl
     refine VUpd.now rfl ⟨rfl, rfl⟩
    | ps h' =>
     cases h'
     repeat first | refine vcn (nself _) ?_ | refine vcn (nselfS _) ?_ | refine vcn (nselfB _) ?_
     refine VCode.loop ?_
     refine eqtl_spec n ih args a a' (by omega) (by omega) ha ha' ?_
     refine VUpd.drop 0 ?_ ?_ ?_ ?_
     iterate 3 exact rfl
     refine VUpd.now rfl ⟨rfl, rfl⟩
   | ps h =>
    cases hf' with
    | nil =>
     cases h
     repeat first | refine vcn (nself _) ?_ | refine vcn (nselfS _) ?_ | refine vcn (nselfB _) ?_
     refine VCode.loop ?_
     refine eqtl_spec n ih args a a' (by omega) (by omega) ha ha' ?_
     refine VUpd.drop 0 ?_ ?_ ?_ ?_
     iterate 3 exact rfl
     refine VUpd.now rfl ⟨rfl, rfl⟩
    | ps h' =>
     rename_i b o cap els b' o' cap' els'
     have e1 := h.len
     have e2 := h'.len
     have he : (!decide (Int.ofNat els.length = Int.ofNat els'.length)) = false := by rw [e1, e2]; exact nself _
     repeat first | refine vcn (nself _) ?_ | refine vcn (nselfS _) ?_ | refine vcn he ?_
     refine VCode.less (tm0 := [(2, .bp 0 0), (3, .bp 1 0), (5, intV 0)]) ⟨rfl, rfl, rfl, trivial⟩ ?_
     refine VCode.iter (fun i : Nat => [(2, .bp 0 0), (3, .bp 1 0), (5, intV i)]) (fun _ => [.box (tyV k m nm a (.ps b o 7 cap els)), .box (tyV k m nm a' (.ps b' o' 7 cap' els'))]) (fun i => fields.length - i) (fun i => i <= fields.length) ?_ 0 (Nat.zero_le _)
     intro i hi
     refine vci (fun hc => ?_) (fun hc => ?_)
     ·have hi' : i < fields.length := e1 ▸ dlt hc
      obtain ⟨x, hx, hxn, hxo, hxt⟩ := h.get hi'
      obtain ⟨y, hy, hyn, hyo, hyt⟩ := h'.get hi'
      have hx1 : nth els i = some (fe x) := by rw [nth_eq]; exact hx
      have hy1 : nth els' i = some (fe y) := by rw [nth_eq]; exact hy
      have hle : tsize fields[i].2.1 <= tsizeL (ftys fields) := tsizeL_mem (List.mem_map_of_mem (List.getElem_mem hi'))
      generalize fields[i] = z at hxn hxo hxt hyn hyo hyt hle
      obtain ⟨xn, xk, xm, xnm, xa, xf, xo⟩ := x
      obtain ⟨yn, yk, ym, ynm, ya, yf, yo⟩ := y
      obtain ⟨zn, zt, zo⟩ := z
      have hxn : zn = xn := hxn
      have hyn : zn = yn := hyn
      have hxo : zo = xo := hxo
      have hyo : zo = yo := hyo
      have hle : tsize zt <= tsizeL (ftys fields) := hle
      subst hxn hyn hxo hyo
      repeat first | refine vnf rfl ?_ | refine exf _ hx1 ?_ | refine exf _ hy1 ?_ | refine vcn (nselfS _) ?_ | refine vcn (nselfB _) ?_
      repeat refine vni (by repeat' (first | exact trivial | exact rfl | refine vnf rfl ?_ | refine vnf rfl ?_ | refine exf _ hx1 ?_ | refine exf _ hy1 ?_ | refine vcn (nselfS _) ?_ | refine vcn (nselfB _) ?_ | refine And.intro ?_ ?_)) ?_
      repeat first | refine vcn (nself _) ?_ | refine vcn (nselfS _) ?_ | refine vcn (nselfB _) ?_
      refine ih zt _ _ (by omega) hxt hyt ?_
      repeat refine vni (by repeat' (first | exact trivial | exact rfl | refine vnf rfl ?_ | refine vnf rfl ?_ | refine exf _ hx1 ?_ | refine exf _ hy1 ?_ | refine vcn (nselfS _) ?_ | refine vcn (nselfB _) ?_ | refine And.intro ?_ ?_)) ?_
      repeat first | refine vcn (nself _) ?_ | refine vcn (nselfS _) ?_ | refine vcn (nselfB _) ?_
      repeat refine vni (by repeat' (first | exact trivial | exact rfl | refine vnf rfl ?_ | refine vnf rfl ?_ | refine exf _ hx1 ?_ | refine exf _ hy1 ?_ | refine vcn (nselfS _) ?_ | refine vcn (nselfB _) ?_ | refine And.intro ?_ ?_)) ?_
      repeat first | refine vcn (nself _) ?_ | refine vcn (nselfS _) ?_ | refine vcn (nselfB _) ?_
      refine ⟨i + 1, hi', by show fields.length - (i + 1) < fields.length - i; omega, .same ⟨rfl, rfl, int_eq (wrap_succ (by omega)), trivial⟩ rfl, rfl, rfl⟩
     ·have hi' : fields.length <= i := e1 ▸ dnlt hc
      refine eqtl_spec n ih args a a' (by omega) (by omega) ha ha' ?_
      refine VUpd.drop 0 ?_ ?_ ?_ ?_
      iterate 3 exact rfl
      refine VUpd.now rfl ⟨rfl, rfl⟩
theorem eqt_spec : ∀ (n : Nat) (t : Ty) (d d' : List D), n < 4294967295 -> tsize t <= n -> TyD t d -> TyD t d' -> ∀ {σ : VS} {K : VCR -> VS -> Prop}, K (.ret (boolV true)) σ -> VCall C intr0 F.modcertref04_EqualTypes [.agg (d.map V.d), .agg (d'.map V.d)] σ K := by
 intro n
 induction n with
 | zero => intro t d d' _ h; have := tsize_pos t; omega
 | succ n ih =>
  intro t d d' hn h hd hd' σ K hk
  have h0 := eqt_spec0 n (fun t d d' h1 h2 h3 => ih t d d' (by omega) h1 h2 h3) t d d' h hn hd hd'
  obtain ⟨k, m, nm, a, f, rfl⟩ := hd.five
  obtain ⟨k', m', nm', a', f', rfl⟩ := hd'.five
  exact VCall.pure h0 rfl rfl hk
end Go.Proofs.YthfehkcfhiilfaaGreatDoor
