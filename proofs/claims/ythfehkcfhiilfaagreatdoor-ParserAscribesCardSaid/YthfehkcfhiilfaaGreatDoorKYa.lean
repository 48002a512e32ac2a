/- Sizes, depths, parts of types. -/
import Derived.Test.YthfehkcfhiilfaaGreatDoorKRe
import Derived.Test.YthfehkcfhiilfaaGreatDoorKVmD
namespace Go.Proofs.YthfehkcfhiilfaaGreatDoor
open Go.AM Go.VM
mutual
def tsize : Ty -> Nat
 | .mk _ _ _ args fields => tsizeL args + tsizeF fields + 1
def tsizeL : List Ty -> Nat
 | [] => 0
 | t :: l => tsize t + tsizeL l
def tsizeF : List (List UInt8 × Ty × Bool) -> Nat
 | [] => 0
 | (_, t, _) :: l => tsize t + tsizeF l
end
mutual
def tdepth : Ty -> Nat
 | .mk _ _ _ args fields => max (tdepthL args) (tdepthF fields) + 1
def tdepthL : List Ty -> Nat
 | [] => 0
 | t :: l => max (tdepth t) (tdepthL l)
def tdepthF : List (List UInt8 × Ty × Bool) -> Nat
 | [] => 0
 | (_, t, _) :: l => max (tdepth t) (tdepthF l)
end
mutual
def tbig : Ty -> Bool
 | .mk _ _ _ args fields => decide (32 < fields.length) || decide (8 < args.length) || tbigL args || tbigF fields
def tbigL : List Ty -> Bool
 | [] => false
 | t :: l => tbig t || tbigL l
def tbigF : List (List UInt8 × Ty × Bool) -> Bool
 | [] => false
 | (_, t, _) :: l => tbig t || tbigF l
end
def ftys (l : List Fld) : List Ty := l.map fun x => x.2.1
def partsF : Ty -> List Ty
 | .mk _ _ _ args fields => args ++ ftys fields
theorem tsizeL_app (a b : List Ty) : tsizeL (a ++ b) = tsizeL a + tsizeL b := by
 induction a with
 | nil => simp [tsizeL]
 | cons x a ih => simp only [List.cons_append, tsizeL, ih]; omega
theorem tsizeF_eq (l : List Fld) : tsizeF l = tsizeL (ftys l) := by
 induction l with
 | nil => rfl
 | cons x l ih => obtain ⟨n, t, o⟩ := x; simp only [tsizeF, ftys, List.map_cons, tsizeL] at ih ⊢; rw [ih]
theorem tsize_parts (t : Ty) : tsize t = tsizeL (partsF t) + 1 := by
 obtain ⟨k, m, n, args, fields⟩ := t
 rw [tsize, partsF, tsizeL_app, tsizeF_eq]
theorem tdepthL_app (a b : List Ty) : tdepthL (a ++ b) = max (tdepthL a) (tdepthL b) := by
 induction a with
 | nil => simp [tdepthL]
 | cons x a ih => simp only [List.cons_append, tdepthL, ih]; omega
theorem tdepthF_eq (l : List Fld) : tdepthF l = tdepthL (ftys l) := by
 induction l with
 | nil => rfl
 | cons x l ih => obtain ⟨n, t, o⟩ := x; simp only [tdepthF, ftys, List.map_cons, tdepthL] at ih ⊢; rw [ih]
theorem tdepth_parts (t : Ty) : tdepth t = tdepthL (partsF t) + 1 := by
 obtain ⟨k, m, n, args, fields⟩ := t
 rw [tdepth, partsF, tdepthL_app, tdepthF_eq]
theorem tbigL_app (a b : List Ty) : tbigL (a ++ b) = (tbigL a || tbigL b) := by
 induction a with
 | nil => simp [tbigL]
 | cons x a ih => simp only [List.cons_append, tbigL, ih, Bool.or_assoc]
theorem tbigF_eq (l : List Fld) : tbigF l = tbigL (ftys l) := by
 induction l with
 | nil => rfl
 | cons x l ih => obtain ⟨n, t, o⟩ := x; simp only [tbigF, ftys, List.map_cons, tbigL] at ih ⊢; rw [ih]
def bigN : Ty -> Bool
 | .mk _ _ _ args fields => decide (32 < fields.length) || decide (8 < args.length)
theorem tbig_parts (t : Ty) : tbig t = (bigN t || tbigL (partsF t)) := by
 obtain ⟨k, m, n, args, fields⟩ := t
 rw [tbig, partsF, tbigL_app, tbigF_eq, bigN, Bool.or_assoc]
theorem tsize_pos (t : Ty) : 0 < tsize t := by rw [tsize_parts]; omega
theorem tsizeL_len (l : List Ty) : l.length <= tsizeL l := by
 induction l with
 | nil => simp
 | cons t l ih => have := tsize_pos t; simp only [List.length_cons, tsizeL]; omega
theorem tsizeL_mem {l : List Ty} {t : Ty} (h : t ∈ l) : tsize t <= tsizeL l := by
 induction l with
 | nil => simp at h
 | cons a l ih =>
  rcases List.mem_cons.1 h with rfl | h
  ·simp only [tsizeL]; omega
  ·have := ih h; simp only [tsizeL]; omega
theorem tdepth_le (n : Nat) : ∀ t : Ty, tsize t <= n -> tdepth t <= tsize t := by
 induction n with
 | zero => intro t h; have := tsize_pos t; omega
 | succ n ih =>
  intro t h
  rw [tsize_parts] at h ⊢
  rw [tdepth_parts]
  have : ∀ l : List Ty, tsizeL l <= n -> tdepthL l <= tsizeL l := by
   intro l
   induction l with
   | nil => intro _; simp [tdepthL]
   | cons a l ihl =>
    intro hl
    simp only [tsizeL, tdepthL] at hl ⊢
    have := ih a (by omega)
    have := ihl (by omega)
    omega
  have := this _ (by omega : tsizeL (partsF t) <= n)
  omega
theorem ArgsL.len {l : List Ty} {els : List (List D)} (h : ArgsL l els) : els.length = l.length := by
 induction l generalizing els with
 | nil => cases h; rfl
 | cons a l ih => cases h with | cons _ h2 => simp only [List.length_cons, ih h2]
theorem ArgsL.get {l : List Ty} {els : List (List D)} (h : ArgsL l els) {i : Nat} (hi : i < l.length) : ∃ d, els[i]? = some d /\ TyD l[i] d := by
 induction l generalizing els i with
 | nil => simp at hi
 | cons a l ih =>
  cases h with
  | cons h1 h2 =>
   cases i with
   | zero => exact ⟨_, rfl, h1⟩
   | succ i => obtain ⟨d, a, b⟩ := ih h2 (i := i) (by simpa using hi); exact ⟨d, by simpa using a, b⟩
theorem ArgsL.app {l l' : List Ty} {els els' : List (List D)} (h : ArgsL l els) (h' : ArgsL l' els') : ArgsL (l ++ l') (els ++ els') := by
 induction l generalizing els with
 | nil => cases h; exact h'
 | cons a l ih => cases h with | cons h1 h2 => exact .cons h1 (ih h2)
theorem FlsL.len {l : List Fld} {els : List (List D)} (h : FlsL l els) : els.length = l.length := by
 induction l generalizing els with
 | nil => cases h; rfl
 | cons a l ih => cases h with | cons _ h2 => simp only [List.length_cons, ih h2]
theorem FlsL.get {l : List Fld} {els : List (List D)} (h : FlsL l els) {i : Nat} (hi : i < l.length) : ∃ x : FE, els[i]? = some (fe x) /\ l[i].1 = x.n /\ l[i].2.2 = x.o /\ TyD l[i].2.1 x.ty := by
 induction l generalizing els i with
 | nil => simp at hi
 | cons a l ih =>
  cases h with
  | cons h1 h2 =>
   cases i with
   | zero =>
    obtain ⟨k, m, n', a', f', rfl⟩ := h1.five
    exact ⟨⟨_, k, m, n', a', f', _⟩, rfl, rfl, rfl, h1⟩
   | succ i => obtain ⟨d, a, b⟩ := ih h2 (i := i) (by simpa using hi); exact ⟨d, by simpa using a, b⟩
inductive SlD : List Ty -> D -> Prop
 | nil : SlD [] .nils
 | ps {b o cap : Nat} {l : List Ty} {els : List (List D)} (h : ArgsL l els) : SlD l (.ps b o 5 cap els)
def partfz : Nat -> Bool := fun t => Nat.beq t 19
def tyV (k : Nat) (m n : List UInt8) (a f : D) : List V := [.d (.int .i64 (Int.ofNat k)), .d (.str m), .d (.str n), .d a, .d f]
def partS (c : List V) : List (List D) -> VS
 | [] => [.box c]
 | e :: r => [.box c, .row 5 ((e :: r).map fun d => d.map V.d)]
def partV : List (List D) -> V
 | [] => .d .nils
 | _ :: r => .ms 1 5 0 (r.length + 1) (r.length + 1)
theorem part_grow {π : Nat -> Nat} (e0 : List D) (r : List (List D)) (d : List D) : some (VObj.row 5 (List.take (r.length + 1) (List.drop 0 (List.map (fun d => List.map V.d d) (e0 :: r))) ++ [d.map V.d])) = some (renO π (.row 5 (List.map (fun d => List.map V.d d) (e0 :: (r ++ [d]))))) := by
 rw [renO_d, List.drop_zero, List.take_of_length_le (by simp)]
 simp
theorem part_out (i : Nat) (r : List (List D)) (d : List D) : some (V.ms i 5 0 (r.length + 1 + 1) (r.length + 1 + 1)) = some (V.ms i 5 0 ((r ++ [d]).length + 1) ((r ++ [d]).length + 1)) := by simp
theorem part_end {c : List V} {tl : VS} {l : List Ty} {els : List (List D)} (i n : Nat) (hn : n = els.length) (hr : nth tl i = some (.row 5 (els.map fun d => d.map V.d))) (hL : ArgsL l els) :
  VUpd 0 (.ret (.ms (i + 1) 5 0 n n)) (.box c :: tl) fun r σ' => σ' = [] /\ closedCR r = true /\ ∃ d, SlD l d /\ r = .ret (.d d) := by
 refine VUpd.freeze (i + 1) (es := 5) (l := els) hr (drows_d els) (fun _ => ⟨rfl, by simp [hn]⟩) (fun b => ?_)
 have e : fzCR (i + 1) b els (.ret (.ms (i + 1) 5 0 n n)) = .ret (.d (.ps b (0 * 5) 5 n els)) := by
  show VCR.ret (fzV (i + 1) b els (.ms (i + 1) 5 0 n n)) = _
  rw [fzV, nbeq_self]
  show VCR.ret (.d (.ps b (0 * 5) 5 n ((els.drop 0).take n))) = _
  rw [take_self _ _ hn]
 rw [e]
 refine VUpd.drop 0 rfl (by rw [bdS]) rfl (VUpd.now rfl ?_)
 exact ⟨rfl, rfl, _, .ps hL, rfl⟩
theorem arg_fit2 {c n : Nat} (h : c <= 4294967296) (hn : n = 1 := by rfl) : (c + n) * 88 <= limit /\ c + n <= limit := by
 unfold limit
 omega
theorem part_fit0 (e0 : List D) (r : List (List D)) (h : r.length + 1 < 4294967296) : (0 + (List.map (fun e => List.map V.d e) (e0 :: r)).length) * 88 <= limit /\ 0 + (List.map (fun e => List.map V.d e) (e0 :: r)).length <= limit := by
 unfold limit
 simp only [List.length_map, List.length_cons]
 omega
theorem part_start {π : Nat -> Nat} (e0 : List D) (r : List (List D)) : some (VObj.row 5 (List.take 0 (List.drop 0 []) ++ List.map (fun d => List.map V.d d) (e0 :: r))) = some (renO π (.row 5 (List.map (fun d => List.map V.d d) (e0 :: r)))) := by
 rw [renO_d]
 rfl
theorem part_out0 (i : Nat) (e0 : List D) (r : List (List D)) : some (V.ms i 5 0 (0 + (List.map (fun e => List.map V.d e) (e0 :: r)).length) (0 + (List.map (fun e => List.map V.d e) (e0 :: r)).length)) = some (V.ms i 5 0 (r.length + 1) (r.length + 1)) := by simp
theorem ftys_take {l : List Fld} {i : Nat} (h : i < l.length) : ftys (l.take (i + 1)) = ftys (l.take i) ++ [l[i].2.1] := by
 unfold ftys
 rw [List.take_add_one, List.getElem?_eq_getElem h, List.map_append]
 rfl
set_option maxHeartbeats 4000000 in
theorem parts_spec0 (k : Nat) (m n : List UInt8) (args : List Ty) (fields : List Fld) (a f : D) (ha : ArgsD args a) (hf : FlsD fields f) (hl : args.length + fields.length < 4294967296) :
  VCall C intr0 F.syntax_parts [.agg (tyV k m n a f)] [] fun r σ' => σ' = [] /\ closedCR r = true /\ ∃ d, SlD (args ++ ftys fields) d /\ r = .ret (.d d) := by
 refine VCall.b1 partfz (fun _ => rfl) ?_
 refine VCall.b0 nofz (fun _ => rfl) ?_
 cases ha with
 | nil =>
  cases hf with
  | nil =>
   refine VCode.loop ?_
   refine VUpd.drop 0 ?_ ?_ ?_ ?_
   iterate 3 exact rfl
   refine VUpd.now rfl ⟨rfl, rfl, .nils, .nil, rfl⟩
  | ps hf =>
   rename_i b2 o2 cap2 fels
   have hfl := hf.len
   refine VCode.arr (tm0 := [(3, partV []), (10, .d (.ps b2 o2 7 cap2 fels)), (11, intV fields.length), (12, intV 0)]) (σ0 := partS (tyV k m n .nils (.ps b2 o2 7 cap2 fels)) []) (.same ⟨rfl, rfl, int_eq (by rw [hfl]), rfl, trivial⟩ rfl) ?_
   refine VCode.iter (fun x : Nat × List (List D) => [(3, partV x.2), (10, .d (.ps b2 o2 7 cap2 fels)), (11, intV fields.length), (12, intV x.1)]) (fun x => partS (tyV k m n .nils (.ps b2 o2 7 cap2 fels)) x.2) (fun x => fields.length - x.1)
    (fun x => x.1 <= fields.length /\ ArgsL ([] ++ ftys (fields.take x.1)) x.2) ?_ (0, []) ⟨Nat.zero_le _, by exact .nil⟩
   rintro ⟨j, acc⟩ ⟨hj, hacc⟩
   have hj : j <= fields.length := hj
   have hacc : ArgsL ([] ++ ftys (fields.take j)) acc := hacc
   have hcl := hacc.len
   rw [List.length_append, ftys, List.length_map, List.length_take] at hcl
   try simp only [List.length_nil] at hcl
   refine vci (fun hc => ?_) (fun hc => ?_)
   ·have hj' : j < fields.length := dlt hc
    obtain ⟨x, hx, _, _, hxt⟩ := hf.get hj'
    have hacc' : ArgsL ([] ++ ftys (fields.take (j + 1))) (acc ++ [x.ty]) := by rw [ftys_take hj', <- List.append_assoc]; exact hacc.snoc hxt
    refine vnf rfl ?_
    refine exf (fe x) (by rw [nth_eq]; exact hx) ?_
    cases acc with
    | nil =>
     intro b3
     refine vni rfl (vni ⟨Nat.le_of_ble_eq_true rfl, Nat.le_of_ble_eq_true rfl⟩ ?_)
     refine ⟨(j + 1, [x.ty]), ⟨hj', hacc'⟩, by show fields.length - (j + 1) < fields.length - j; omega, ?_, rfl, rfl⟩
     exact .pick 1 [0, 2] ⟨rfl, rfl, rfl, int_eq (wrap_succ (by omega)), trivial⟩ rfl rfl rfl rfl rfl (by decide) ⟨rfl, rfl, rfl, rfl, trivial⟩
    | cons e r =>
     intro b3
     have hrl : r.length + 1 <= 4294967296 := by simp only [List.length_cons] at hcl; omega
     refine vni rfl (vni ⟨rfl, rfl, by simp, Nat.le_refl _, arg_fit2 hrl⟩ ?_)
     refine vcn rfl (vcn (lit_full (r.length + 1)) ?_)
     refine ⟨(j + 1, e :: (r ++ [x.ty])), ⟨hj', hacc'⟩, by show fields.length - (j + 1) < fields.length - j; omega, ?_, rfl, rfl⟩
     exact .pick 1 [0, 3] ⟨part_out 3 r x.ty, rfl, rfl, int_eq (wrap_succ (by omega)), trivial⟩ rfl rfl rfl rfl rfl (by decide) ⟨rfl, rfl, part_grow e r x.ty, bdO_d _ _ _, trivial⟩
   ·have hj' : fields.length <= j := dnlt hc
    rw [List.take_of_length_le hj'] at hacc
    cases acc with
    | nil =>
     have hnil : [] ++ ftys fields = [] := List.eq_nil_of_length_eq_zero hacc.len.symm
     refine VUpd.drop 0 ?_ ?_ ?_ ?_
     iterate 3 exact rfl
     refine VUpd.now rfl ⟨rfl, rfl, .nils, ?_, rfl⟩
     rw [hnil]
     exact .nil
    | cons e r => exact part_end 0 (r.length + 1) rfl rfl hacc
 | ps h hne =>
  rename_i b o cap els
  cases els with
  | nil => exact absurd rfl hne
  | cons e0 r0 =>
   have hal := h.len
   have hrl0 : r0.length + 1 < 4294967296 := by simp only [List.length_cons] at hal; omega
   refine vni rfl (vni ⟨rfl, rfl, Nat.le_refl _, Nat.le_refl _, part_fit0 e0 r0 hrl0⟩ ?_)
   refine vcn rfl (vcn rfl ?_)
   cases hf with
   | nil =>
    refine VCode.loop ?_
    refine part_end (els := e0 :: r0) 1 _ (by simp) ?_ ?_
    ·exact rfl
    ·simpa [ftys] using h
   | ps hf =>
    rename_i b2 o2 cap2 fels
    have hfl := hf.len
    refine VCode.arr (tm0 := [(3, partV (e0 :: r0)), (10, .d (.ps b2 o2 7 cap2 fels)), (11, intV fields.length), (12, intV 0)]) (σ0 := partS (tyV k m n (.ps b o 5 cap (e0 :: r0)) (.ps b2 o2 7 cap2 fels)) (e0 :: r0)) (.pick 1 [0, 2] ⟨part_out0 2 e0 r0, rfl, int_eq (by rw [hfl]), rfl, trivial⟩ rfl rfl rfl rfl rfl (by decide) ⟨rfl, rfl, part_start e0 r0, bdO_d _ _ _, trivial⟩) ?_
    refine VCode.iter (fun x : Nat × List (List D) => [(3, partV x.2), (10, .d (.ps b2 o2 7 cap2 fels)), (11, intV fields.length), (12, intV x.1)]) (fun x => partS (tyV k m n (.ps b o 5 cap (e0 :: r0)) (.ps b2 o2 7 cap2 fels)) x.2) (fun x => fields.length - x.1)
     (fun x => x.1 <= fields.length /\ ArgsL (args ++ ftys (fields.take x.1)) x.2) ?_ (0, (e0 :: r0)) ⟨Nat.zero_le _, by simpa [ftys] using h⟩
    rintro ⟨j, acc⟩ ⟨hj, hacc⟩
    have hj : j <= fields.length := hj
    have hacc : ArgsL (args ++ ftys (fields.take j)) acc := hacc
    have hcl := hacc.len
    rw [List.length_append, ftys, List.length_map, List.length_take] at hcl
    try simp only [List.length_nil] at hcl
    refine vci (fun hc => ?_) (fun hc => ?_)
    ·have hj' : j < fields.length := dlt hc
     obtain ⟨x, hx, _, _, hxt⟩ := hf.get hj'
     have hacc' : ArgsL (args ++ ftys (fields.take (j + 1))) (acc ++ [x.ty]) := by rw [ftys_take hj', <- List.append_assoc]; exact hacc.snoc hxt
     refine vnf rfl ?_
     refine exf (fe x) (by rw [nth_eq]; exact hx) ?_
     cases acc with
     | nil =>
      intro b3
      refine vni rfl (vni ⟨Nat.le_of_ble_eq_true rfl, Nat.le_of_ble_eq_true rfl⟩ ?_)
      refine ⟨(j + 1, [x.ty]), ⟨hj', hacc'⟩, by show fields.length - (j + 1) < fields.length - j; omega, ?_, rfl, rfl⟩
      exact .pick 1 [0, 2] ⟨rfl, rfl, rfl, int_eq (wrap_succ (by omega)), trivial⟩ rfl rfl rfl rfl rfl (by decide) ⟨rfl, rfl, rfl, rfl, trivial⟩
     | cons e r =>
      intro b3
      have hrl : r.length + 1 <= 4294967296 := by simp only [List.length_cons] at hcl; omega
      refine vni rfl (vni ⟨rfl, rfl, by simp, Nat.le_refl _, arg_fit2 hrl⟩ ?_)
      refine vcn rfl (vcn (lit_full (r.length + 1)) ?_)
      refine ⟨(j + 1, e :: (r ++ [x.ty])), ⟨hj', hacc'⟩, by show fields.length - (j + 1) < fields.length - j; omega, ?_, rfl, rfl⟩
      exact .pick 1 [0, 3] ⟨part_out 3 r x.ty, rfl, rfl, int_eq (wrap_succ (by omega)), trivial⟩ rfl rfl rfl rfl rfl (by decide) ⟨rfl, rfl, part_grow e r x.ty, bdO_d _ _ _, trivial⟩
    ·have hj' : fields.length <= j := dnlt hc
     rw [List.take_of_length_le hj'] at hacc
     cases acc with
     | nil =>
      have hnil : args ++ ftys fields = [] := List.eq_nil_of_length_eq_zero hacc.len.symm
      refine VUpd.drop 0 ?_ ?_ ?_ ?_
      iterate 3 exact rfl
      refine VUpd.now rfl ⟨rfl, rfl, .nils, ?_, rfl⟩
      rw [hnil]
      exact .nil
     | cons e r => exact part_end 0 (r.length + 1) rfl rfl hacc
set_option maxHeartbeats 4000000 in
theorem parts_spec (t : Ty) (d : List D) (hd : TyD t d) (hl : tsize t < 4294967296) {σ : VS} {K : VCR -> VS -> Prop} (hk : ∀ d, SlD (partsF t) d -> K (.ret (.d d)) σ) : VCall C intr0 F.syntax_parts [.agg (d.map V.d)] σ K := by
 cases hd with
 | mk ha hf =>
  rename_i k m n args fields a f
  have h1 := tsizeL_len (partsF (.mk k m n args fields))
  rw [tsize_parts] at hl
  have h2 : (partsF (.mk k m n args fields)).length = args.length + fields.length := by simp [partsF, ftys]
  exact VCall.closed (P := fun r => ∃ d, SlD (args ++ ftys fields) d /\ r = .ret (.d d)) (parts_spec0 k m n args fields a f ha hf (by omega)) rfl (fun r ⟨d, h, e⟩ => by rw [e]; exact hk d h)
theorem tdepthL_take {l : List Ty} {i : Nat} (h : i < l.length) : tdepthL (l.take (i + 1)) = max (tdepthL (l.take i)) (tdepth l[i]) := by
 rw [List.take_add_one, List.getElem?_eq_getElem h, tdepthL_app]
 simp [tdepthL]
theorem tsizeL_take {l : List Ty} {i : Nat} (h : i < l.length) : tsizeL (l.take (i + 1)) = tsizeL (l.take i) + tsize l[i] := by
 rw [List.take_add_one, List.getElem?_eq_getElem h, tsizeL_app]
 simp [tsizeL]
theorem tsizeL_take_le (l : List Ty) (i : Nat) : tsizeL (l.take i) <= tsizeL l := by
 have h := tsizeL_app (l.take i) (l.drop i)
 rw [List.take_append_drop] at h
 omega
theorem tdepthL_le (l : List Ty) : tdepthL l <= tsizeL l := by
 induction l with
 | nil => simp [tdepthL]
 | cons a l ih => have := tdepth_le _ a (Nat.le_refl _); simp only [tdepthL, tsizeL]; omega
set_option maxHeartbeats 4000000 in
theorem depth_spec0 (n : Nat) (ih : ∀ (t : Ty) (d : List D), tsize t <= n -> TyD t d -> ∀ {σ : VS} {K : VCR -> VS -> Prop}, K (.ret (intV (tdepth t))) σ -> VCall C intr0 F.syntax_TypeDepth [.agg (d.map V.d)] σ K)
  (t : Ty) (d : List D) (ht : tsize t <= n + 1) (hn : n < 4294967295) (hd : TyD t d) : VCall C intr0 F.syntax_TypeDepth [.agg (d.map V.d)] [] fun r σ' => σ' = [] /\ r = .ret (intV (tdepth t)) := by
 obtain ⟨k, m, nm, a, f, rfl⟩ := hd.five
 have hsz := tsize_parts t
 refine VCall.b1 nofz (fun _ => rfl) ?_
 refine parts_spec t _ hd (by omega) (fun d hs => ?_)
 rw [tdepth_parts]
 have hpl : tsizeL (partsF t) <= n := by omega
 generalize partsF t = pl at hs hpl
 have hll := tsizeL_len pl
 cases hs with
 | nil =>
  refine VCode.loop ?_
  refine VUpd.drop 0 ?_ ?_ ?_ ?_
  iterate 3 exact rfl
  exact VUpd.now rfl ⟨rfl, rfl⟩
 | ps h =>
  rename_i b o cap els
  have hel := h.len
  refine VCode.less (tm0 := [(3, intV 0), (7, .d (.ps b o 5 cap els)), (8, intV pl.length), (9, intV 0)]) ⟨rfl, rfl, int_eq (by rw [hel]), rfl, trivial⟩ ?_
  refine VCode.iter (fun i : Nat => [(3, intV (tdepthL (pl.take i))), (7, .d (.ps b o 5 cap els)), (8, intV pl.length), (9, intV i)]) (fun _ => [.box (tyV k m nm a f)]) (fun i => pl.length - i) (fun i => i <= pl.length) ?_ 0 (Nat.zero_le _)
  intro i hi
  refine vci (fun hc => ?_) (fun hc => ?_)
  ·have hi' : i < pl.length := dlt hc
   obtain ⟨d, hx, hxt⟩ := h.get hi'
   refine vnf rfl ?_
   obtain ⟨k2, m2, nm2, a2, f2, rfl⟩ := hxt.five
   refine exf _ (by rw [nth_eq]; exact hx) ?_
   have hle := tsizeL_mem (List.getElem_mem hi')
   refine ih pl[i] _ (by omega) hxt ?_
   refine ⟨i + 1, hi', by show pl.length - (i + 1) < pl.length - i; omega, .drop 1 ⟨int_eq ?_, rfl, rfl, int_eq (wrap_succ (by omega)), trivial⟩ rfl rfl rfl rfl rfl rfl rfl, rfl, rfl⟩
   rw [tdepthL_take hi']
   simp only [Int.ofNat_eq_natCast]
   omega
  ·have hi' : pl.length <= i := dnlt hc
   rw [List.take_of_length_le hi']
   have hdl := tdepthL_le pl
   refine VUpd.drop 0 ?_ ?_ ?_ ?_
   iterate 3 exact rfl
   refine VUpd.now rfl ⟨rfl, ?_⟩
   exact congrArg VCR.ret (congrArg V.d (congrArg (D.int .i64) (wrap_succ (by omega))))
set_option maxHeartbeats 4000000 in
theorem depth_spec : ∀ (n : Nat) (t : Ty) (d : List D), n < 4294967295 -> tsize t <= n -> TyD t d -> ∀ {σ : VS} {K : VCR -> VS -> Prop}, K (.ret (intV (tdepth t))) σ -> VCall C intr0 F.syntax_TypeDepth [.agg (d.map V.d)] σ K := by
 intro n
 induction n with
 | zero => intro t d _ h; have := tsize_pos t; omega
 | succ n ih =>
  intro t d hn h hd σ K hk
  obtain ⟨k, m, nm, a, f, rfl⟩ := hd.five
  exact VCall.pure (depth_spec0 n (fun t d h1 h2 => ih t d (by omega) h1 h2) t _ h (by omega) hd) rfl rfl hk
def walkS (o : List V) (c0 c2 : List V) (L : VLoop) : VS := [.box c0, .box o, .box c2, .defl false, .loop L, .box [.yld 4], .box [.fn F.syntax_types_1_1 [] [.bp 5 0, .bp 6 0]]]
theorem walk_bd {o c0 c2 : List V} {L : VLoop} (ho : bdL 0 o = true) (h0 : bdL 0 c0 = true) (h2 : bdL 0 c2 = true) (hL : bdO 7 (.loop L) = true) : bdS 7 (walkS o c0 c2 L) 7 = true := by
 simp only [walkS, bdS, bdO, bdL_up 7 o ho, bdL_up 7 c0 h0, bdL_up 7 c2 h2, Bool.true_and, Bool.and_true] at hL ⊢
 rw [hL]
 rfl
theorem walk_bd8 {o c0 c2 c3 : List V} {tl : VS} {L : VLoop} (ho : bdL 0 o = true) (h0 : bdL 0 c0 = true) (h2 : bdL 0 c2 = true) (h3 : bdL 0 c3 = true) (hL : bdO 8 (.loop L) = true) : bdS 8 (walkS o c0 c2 L ++ .box c3 :: tl) 8 = true := by
 simp only [walkS, List.cons_append, List.nil_append, bdS, bdO, bdL_up 8 o ho, bdL_up 8 c0 h0, bdL_up 8 c2 h2, bdL_up 8 c3 h3, Bool.true_and, Bool.and_true] at hL ⊢
 rw [hL]
 rfl
def cntS (n : Nat) (c0 c2 : List V) (L : VLoop) : VS := walkS [intV n] c0 c2 L
theorem sizeWalk0 (c0 c2 : List V) (L : VLoop) (hb0 : bdL 0 c0 = true) (hb2 : bdL 0 c2 = true) (hL : bdO 7 (.loop L) = true) (hL8 : bdO 8 (.loop L) = true)
  (hy : ∀ (n : Nat) (cs d : List V) (K : VCR -> VS -> Prop), n < 4294967296 -> K (.ret (boolV true)) (cntS (n + 1) c0 c2 L ++ [.box cs]) -> VRound C intr0 4 [.agg d] (cntS n c0 c2 L ++ [.box cs]) K) (n : Nat)
  (ih : ∀ (t : Ty) (d : List D), tsize t <= n -> TyD t d -> ∀ c, c + tsize t < 4294967296 -> VCall C intr0 F.syntax_types_1_1 [.agg (d.map V.d), .bp 5 0, .bp 6 0] (cntS c c0 c2 L) fun r σ' => σ' = cntS (c + tsize t) c0 c2 L /\ r = .ret (boolV true))
  (t : Ty) (d : List D) (ht : tsize t <= n + 1) (hd : TyD t d) (c : Nat) (hc : c + tsize t < 4294967296) :
  VCall C intr0 F.syntax_types_1_1 [.agg (d.map V.d), .bp 5 0, .bp 6 0] (cntS c c0 c2 L) fun r σ' => σ' = cntS (c + tsize t) c0 c2 L /\ r = .ret (boolV true) := by
 obtain ⟨k, m, nm, a, f, rfl⟩ := hd.five
 have hsz := tsize_parts t
 refine VCall.b1 nofz (fun _ => rfl) ?_
 refine hy c (tyV k m nm a f) _ _ (by omega) ?_
 refine parts_spec t _ hd (by omega) (fun d hs => ?_)
 rw [hsz]
 have hpl : tsizeL (partsF t) <= n := by omega
 have hcl : c + (tsizeL (partsF t) + 1) < 4294967296 := by omega
 generalize partsF t = pl at hs hpl hcl
 have hll := tsizeL_len pl
 cases hs with
 | nil =>
  refine VCode.loop ?_
  refine VUpd.drop 7 ?_ ?_ ?_ ?_
  ·exact rfl
  ·exact walk_bd rfl hb0 hb2 hL
  ·exact rfl
  exact VUpd.now rfl ⟨rfl, rfl⟩
 | ps h =>
  rename_i b o cap els
  have hel := h.len
  refine VCode.less (tm0 := [(12, .d (.ps b o 5 cap els)), (13, intV pl.length), (14, intV 0), (2, .bp 6 0)]) ⟨rfl, int_eq (by rw [hel]), rfl, rfl, trivial⟩ ?_
  refine VCode.iter (fun i : Nat => [(12, .d (.ps b o 5 cap els)), (13, intV pl.length), (14, intV i), (2, .bp 6 0)]) (fun i => cntS (c + 1 + tsizeL (pl.take i)) c0 c2 L ++ [.box (tyV k m nm a f)]) (fun i => pl.length - i) (fun i => i <= pl.length) ?_ 0 (Nat.zero_le _)
  intro i hi
  refine vci (fun hc => ?_) (fun hc => ?_)
  ·have hi' : i < pl.length := dlt hc
   obtain ⟨d, hx, hxt⟩ := h.get hi'
   refine vnf rfl ?_
   obtain ⟨k2, m2, nm2, a2, f2, rfl⟩ := hxt.five
   refine exf _ (by rw [nth_eq]; exact hx) ?_
   have hle := tsizeL_mem (List.getElem_mem hi')
   have htk := tsizeL_take hi'
   have htl := tsizeL_take_le pl (i + 1)
   refine (ih pl[i] _ (by omega) hxt (c + 1 + tsizeL (pl.take i)) (by omega)).pre [.box (tyV k m nm a f), .box (tyV k2 m2 nm2 a2 f2)] (walk_bd rfl hb0 hb2 hL) rfl (fun r σ' h => ?_)
   obtain ⟨rfl, rfl⟩ := h
   refine ⟨rfl, walk_bd rfl hb0 hb2 hL, rfl, ?_⟩
   refine ⟨i + 1, hi', by show pl.length - (i + 1) < pl.length - i; omega, .drop 8 ⟨rfl, rfl, int_eq (wrap_succ (by omega)), rfl, trivial⟩ rfl rfl ?_ rfl rfl rfl ?_, rfl, rfl⟩
   ·exact walk_bd8 rfl hb0 hb2 rfl hL8
   ·rw [htk, <- Nat.add_assoc]
    rfl
  ·have hi' : pl.length <= i := dnlt hc
   rw [List.take_of_length_le hi']
   refine VUpd.drop 7 ?_ ?_ ?_ ?_
   ·exact rfl
   ·exact walk_bd rfl hb0 hb2 hL
   ·exact rfl
   refine VUpd.now rfl ⟨?_, rfl⟩
   rw [show c + (tsizeL pl + 1) = c + 1 + tsizeL pl from by omega]
   rfl
theorem sizeWalk (c0 c2 : List V) (L : VLoop) (hb0 : bdL 0 c0 = true) (hb2 : bdL 0 c2 = true) (hL : bdO 7 (.loop L) = true) (hL8 : bdO 8 (.loop L) = true)
  (hy : ∀ (n : Nat) (cs d : List V) (K : VCR -> VS -> Prop), n < 4294967296 -> K (.ret (boolV true)) (cntS (n + 1) c0 c2 L ++ [.box cs]) -> VRound C intr0 4 [.agg d] (cntS n c0 c2 L ++ [.box cs]) K) : ∀ (n : Nat)
  (t : Ty) (d : List D), tsize t <= n -> TyD t d -> ∀ c, c + tsize t < 4294967296 -> VCall C intr0 F.syntax_types_1_1 [.agg (d.map V.d), .bp 5 0, .bp 6 0] (cntS c c0 c2 L) fun r σ' => σ' = cntS (c + tsize t) c0 c2 L /\ r = .ret (boolV true) := by
 intro n
 induction n with
 | zero => intro t d h; have := tsize_pos t; omega
 | succ n ih => intro t d h hd c hc; exact sizeWalk0 c0 c2 L hb0 hb2 hL hL8 hy n ih t d h hd c hc
set_option maxHeartbeats 4000000 in
theorem size_spec0 (t : Ty) (d : List D) (hd : TyD t d) (hn : tsize t < 4294967296) : VCall C intr0 F.syntax_TypeSize [.agg (d.map V.d)] [] fun r σ' => σ' = [] /\ r = .ret (intV (tsize t)) := by
 obtain ⟨k, m, nm, a, f, rfl⟩ := hd.five
 refine VCall.b1 nofz (fun _ => rfl) ?_
 refine VCall.b0 nofz (fun _ => rfl) ?_
 refine VCall.b0 nofz (fun _ => rfl) ?_
 refine (sizeWalk (tyV k m nm a f) (tyV k m nm a f) _ rfl rfl ?_ ?_ (fun n cs d K hn hk => ?_) _ t _ (Nat.le_refl _) hd 0 (by omega)).mono (fun r σ' h => ?_)
 ·exact rfl
 ·exact rfl
 ·refine VRound.intro ?_
  rw [cntS, intV, <- wrap_succ (a := n) (by omega)] at hk
  exact hk
 ·obtain ⟨rfl, rfl⟩ := h
  refine VUpd.drop 0 ?_ ?_ ?_ ?_
  iterate 3 exact rfl
  refine VUpd.now rfl ⟨rfl, ?_⟩
  show VCR.ret (intV (0 + tsize t)) = _
  rw [Nat.zero_add]
set_option maxHeartbeats 4000000 in
theorem size_spec (t : Ty) (d : List D) (hd : TyD t d) (hn : tsize t < 4294967296) {σ : VS} {K : VCR -> VS -> Prop} (hk : K (.ret (intV (tsize t))) σ) : VCall C intr0 F.syntax_TypeSize [.agg (d.map V.d)] σ K := by
 obtain ⟨k, m, nm, a, f, rfl⟩ := hd.five
 exact VCall.pure (size_spec0 t _ hd hn) rfl rfl hk
theorem ext_cmp (a b : List UInt8) : C.ext F.bytealg_abigen_runtime_cmpstring ([D.str a, D.str b].map eraseD) = some (eraseD (.int .i64 (cmpB a b))) := by
 show ext 164 [.string ⟨⟨a⟩⟩, .string ⟨⟨b⟩⟩] = _
 rfl
set_option maxHeartbeats 4000000 in
theorem compare_spec (a b : List UInt8) {σ : VS} {K : VCR -> VS -> Prop} (hk : K (.ret (.d (.int .i64 (cmpB a b)))) σ) : VCall C intr0 F.strings_Compare [strV a, strV b] σ K := by
 refine VCall.b0 nofz (fun _ => rfl) ?_
 refine VCall.b0 nofz (fun _ => rfl) ?_
 refine ex3_of (.int .i64 (cmpB a b)) (ext_cmp a b) rfl ?_
 exact hk
theorem cmp_lt {a b : List UInt8} (h : bytesLt a b = true) : cmpB a b = -1 := by rw [cmpB, h]
theorem cmp_ge {a b : List UInt8} (h : bytesLt a b = false) : 0 <= cmpB a b := by
 rw [cmpB, h]
 cases bytesEq a b <;> decide
set_option maxHeartbeats 4000000 in
theorem index_no {g : Nat} (hgf : (C.ff.get g).isSome = true) (f : D) (fields : List Fld) (hf : FlsD fields f) (hl : fields.length < 4294967296)
  (hg : ∀ (x : FE) (j : Nat) (hj : j < fields.length), fields[j].1 = x.n -> fields[j].2.2 = x.o -> ∀ {σ : VS} {K : VCR -> VS -> Prop}, K (.ret (boolV false)) σ -> VCall C intr0 g [fw x] σ K)
  {σ : VS} {K : VCR -> VS -> Prop} (hk : K (.ret (.d (.int .i64 (-1)))) σ) : VCall C intr0 F.slices_IndexFunc_api_Field [.d f, .fn g [] []] σ K := by
 refine VCall.b0 nofz (fun _ => rfl) ?_
 cases hf with
 | nil =>
  refine VCode.loop ?_
  exact hk
 | ps h =>
  rename_i b o cap els
  have hel := h.len
  refine VCode.less (tm0 := [(0, .d (.ps b o 7 cap els)), (1, .fn g [] []), (7, intV fields.length), (8, intV 0)]) ⟨rfl, rfl, int_eq (by rw [hel]), rfl, trivial⟩ ?_
  refine VCode.iter (fun i : Nat => [(0, .d (.ps b o 7 cap els)), (1, .fn g [] []), (7, intV fields.length), (8, intV i)]) (fun _ => σ) (fun i => fields.length - i) (fun i => i <= fields.length) ?_ 0 (Nat.zero_le _)
  intro i hi
  refine vci (fun hc => ?_) (fun hc => ?_)
  ·have hi' : i < fields.length := dlt hc
   obtain ⟨x, hx, e1, e2, hxt⟩ := h.get hi'
   refine vnf rfl ?_
   refine exf _ (by rw [nth_eq]; exact hx) ?_
   refine vcp hgf ?_
   refine hg x i hi' e1 e2 ?_
   refine ⟨i + 1, hi', by show fields.length - (i + 1) < fields.length - i; omega, .same ⟨rfl, rfl, rfl, int_eq (wrap_succ (by omega)), trivial⟩ rfl, rfl, rfl⟩
  ·exact hk
set_option maxHeartbeats 4000000 in
theorem ctn {g : Nat} (hgf : (C.ff.get g).isSome = true) (f : D) (fields : List Fld) (hf : FlsD fields f) (hl : fields.length < 4294967296)
  (hg : ∀ (x : FE) (j : Nat) (hj : j < fields.length), fields[j].1 = x.n -> fields[j].2.2 = x.o -> ∀ {σ : VS} {K : VCR -> VS -> Prop}, K (.ret (boolV false)) σ -> VCall C intr0 g [fw x] σ K)
  {σ : VS} {K : VCR -> VS -> Prop} (hk : K (.ret (boolV false)) σ) : VCall C intr0 F.slices_ContainsFunc_api_Field [.d f, .fn g [] []] σ K := by
 refine VCall.b0 nofz (fun _ => rfl) ?_
 refine index_no hgf f fields hf hl hg ?_
 exact hk
set_option maxHeartbeats 4000000 in
theorem shaped1_spec (x : FE) {σ : VS} {K : VCR -> VS -> Prop} (hk : K (.ret (boolV x.o)) σ) : VCall C intr0 F.syntax_shaped_1 [fw x] σ K := by
 refine VCall.pure (v := boolV x.o) ?_ rfl rfl hk
 refine VCall.b1 nofz (fun _ => rfl) ?_
 refine VUpd.drop 0 ?_ ?_ ?_ ?_
 iterate 3 exact rfl
 exact VUpd.now rfl ⟨rfl, rfl⟩
set_option maxHeartbeats 4000000 in
theorem node1_spec (x : FE) (hx : isName x.n = true) {σ : VS} {K : VCR -> VS -> Prop} (hk : K (.ret (boolV false)) σ) : VCall C intr0 F.syntax_typeNode_1 [fw x] σ K := by
 refine VCall.pure (v := boolV false) ?_ rfl rfl hk
 refine VCall.b1 nofz (fun _ => rfl) ?_
 have hlen : x.n.length < 4294967296 := by
  simp only [isName, Bool.and_eq_true, decide_eq_true_eq] at hx
  omega
 refine isName_spec x.n hlen ?_
 refine VUpd.drop 0 ?_ ?_ ?_ ?_
 iterate 3 exact rfl
 refine VUpd.now rfl ⟨rfl, ?_⟩
 show VCR.ret (boolV (!(isName x.n))) = _
 rw [hx]
 rfl
set_option maxHeartbeats 4000000 in
theorem node2_spec (x : FE) {σ : VS} {K : VCR -> VS -> Prop} (hk : K (.ret (strV x.n)) σ) : VCall C intr0 F.syntax_typeNode_2 [fw x] σ K := by
 refine VCall.pure (v := strV x.n) ?_ rfl rfl hk
 refine VCall.b1 nofz (fun _ => rfl) ?_
 refine VUpd.drop 0 ?_ ?_ ?_ ?_
 iterate 3 exact rfl
 exact VUpd.now rfl ⟨rfl, rfl⟩
theorem wrap_pred {a : Nat} (h0 : 0 < a) (h : a < 9223372036854775807) : IntKind.i64.wrap (Int.ofNat a - 1) = Int.ofNat (a - 1) := by
 simp only [Int.ofNat_eq_natCast]
 rw [wrap64 (by omega) (by omega)]
 omega
set_option maxRecDepth 100000 in
set_option maxHeartbeats 4000000 in
theorem inc (f : D) (fields : List Fld) (hf : FlsD fields f) (hl : fields.length < 4294967296) (hs : Srt (·.1) fields)
  {σ : VS} {K : VCR -> VS -> Prop} (hk : K (.ret (intV 0)) σ) : VCall C intr0 F.syntax_increase_api_Field [.d f, .fn F.syntax_typeNode_2 [] []] σ K := by
 refine VCall.b0 nofz (fun _ => rfl) ?_
 cases hf with
 | nil =>
  refine VCode.loop ?_
  exact hk
 | ps h =>
  rename_i b o cap els
  have hel := h.len
  refine VCode.less (tm0 := [(0, .d (.ps b o 7 cap els)), (1, .fn F.syntax_typeNode_2 [] []), (5, intV 1)]) ⟨rfl, rfl, rfl, trivial⟩ ?_
  refine VCode.iter (fun i : Nat => [(0, .d (.ps b o 7 cap els)), (1, .fn F.syntax_typeNode_2 [] []), (5, intV i)]) (fun _ => σ) (fun i => fields.length - i) (fun i => 1 <= i) ?_ 1 (Nat.le_refl _)
  intro i hi
  refine vci (fun hc => ?_) (fun hc => ?_)
  ·have hi' : i < fields.length := hel ▸ dlt hc
   obtain ⟨x, hx, e1, e2, hxt⟩ := h.get hi'
   obtain ⟨y, hy, f1, f2, hyt⟩ := h.get (show i - 1 < fields.length by omega)
   have hlt : bytesLt y.n x.n = true := by
    rw [<- e1, <- f1]
    exact hs.lt_of_lt (List.getElem?_eq_getElem (by omega)) (List.getElem?_eq_getElem hi') (by omega)
   have hwp := wrap_pred (a := i) hi (by omega)
   have hx' : nth els i = some (fe x) := by rw [nth_eq]; exact hx
   have hy' : nth els (i - 1) = some (fe y) := by rw [nth_eq]; exact hy
   repeat first
    | refine vnf hwp ?_
    | refine vnf rfl ?_
    | refine exf _ hy' ?_
    | refine exf _ hx' ?_
    | refine vni (by repeat' (first | exact trivial | exact rfl | refine vnf hwp ?_ | refine vnf rfl ?_ | refine exf _ hy' ?_ | refine exf _ hx' ?_ | refine And.intro ?_ ?_)) ?_
    | refine node2_spec y ?_
    | refine node2_spec x ?_
    | refine compare_spec y.n x.n ?_
   refine vcn (by rw [cmp_lt hlt]; rfl) ?_
   refine vcn (by rw [cmp_lt hlt]; rfl) ?_
   exact ⟨i + 1, by show 1 <= i + 1; omega, by show fields.length - (i + 1) < fields.length - i; omega, .same ⟨rfl, rfl, int_eq (wrap_succ (by omega)), trivial⟩ rfl, rfl, rfl⟩
  ·exact hk
end Go.Proofs.YthfehkcfhiilfaaGreatDoor
