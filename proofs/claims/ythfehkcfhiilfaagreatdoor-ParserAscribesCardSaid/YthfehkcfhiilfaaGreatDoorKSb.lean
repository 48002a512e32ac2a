/- Sorting in place: merging, the simple cases. -/
import Derived.Test.YthfehkcfhiilfaaGreatDoorKSa
namespace Go.Proofs.YthfehkcfhiilfaaGreatDoor
open Go.AM Go.VM
theorem wrapu {n : Int} (h0 : 0 <= n) (h1 : n < 18446744073709551616) : IntKind.u64.wrap n = n := by
 unfold IntKind.wrap
 simp only [IntKind.signed, IntKind.bits]
 first
  | (show (if _ then _ else _) = _; split <;> omega)
  | (simp; omega)
theorem half {i j : Nat} (h : i + j < 9223372036854775808) : IntKind.i64.wrap (Int.fdiv (IntKind.u64.wrap (IntKind.i64.wrap (Int.ofNat i + Int.ofNat j))) (2 ^ (min 1 IntKind.u64.bits))) = Int.ofNat ((i + j) / 2) := by
 rw [wrap_add h, wrapu (by simp only [Int.ofNat_eq_natCast]; omega) (by simp only [Int.ofNat_eq_natCast]; omega)]
 have : Int.fdiv (Int.ofNat (i + j)) (2 ^ (min 1 IntKind.u64.bits)) = Int.ofNat ((i + j) / 2) := by
  show Int.fdiv (Int.ofNat (i + j)) 2 = _
  rw [Int.fdiv_eq_ediv_of_nonneg _ (by decide)]
  simp only [Int.ofNat_eq_natCast]
  omega
 rw [this, wrap64 (by simp only [Int.ofNat_eq_natCast]; omega) (by simp only [Int.ofNat_eq_natCast]; omega)]
def mT2 (n a m b t1 i t2 j : Nat) : Tm := [(0, .ms 0 7 0 n n), (1, intV a), (2, intV m), (3, intV b), (4, cmpV), (t1, intV i), (t2, intV j)]
set_option maxRecDepth 100000 in
set_option maxHeartbeats 8000000 in
theorem merge1_spec (A : List FE) (e : FE) (y B : List FE) (sy : Srt FE.n y) (hnd : ((e :: y).map FE.n).Nodup) (n a m b : Nat) (hn : n = (A ++ (e :: (y ++ B))).length) (ha : a = A.length) (hm : m = a + 1) (hb : b = m + y.length) (hl : n < 4294967296) :
  VCall C intr0 F.slices_symMergeCmpFunc_api_Field [.ms 0 7 0 n n, intV a, intV m, intV b, cmpV] [.row 7 (rows (A ++ (e :: (y ++ B))))] fun r σ' => σ' = [.row 7 (rows (A ++ (isortK FE.n (e :: y) ++ B)))] /\ r = .ret (.tup []) := by
 have hsz : n = A.length + (y.length + B.length + 1) := by rw [hn]; simp
 have hne : ∀ z ∈ y, z.n ≠ e.n := by
  intro z hz he
  rw [List.map_cons, List.nodup_cons] at hnd
  exact hnd.1 (by rw [<- he]; exact List.mem_map_of_mem hz)
 have hw1 : IntKind.i64.wrap (Int.ofNat m - Int.ofNat a) = 1 := by
  rw [wrap_sub (by omega) (by omega), show m - a = 1 from by omega]; rfl
 have ge : (A ++ (e :: (y ++ B)))[a]? = some e := get_mid A (y ++ B) e a ha
 have gy : ∀ s (h : s < y.length), (A ++ (e :: (y ++ B)))[m + s]? = some y[s] := by
  intro s h
  rw [List.getElem?_append_right (by omega), show m + s - A.length = s + 1 from by omega, List.getElem?_cons_succ, List.getElem?_append_left h, List.getElem?_eq_getElem h]
 refine VCall.b0 nofz (fun _ => rfl) ?_
 refine vci (fun hc => ?_) (fun hc => absurd (hc.symm.trans (decide_eq_true hw1)) (by decide))
 refine VCode.arr (tm0 := mT2 n a m b 10 (m + 0) 11 (m + y.length)) (σ0 := [.row 7 (rows (A ++ (e :: (y ++ B))))]) (.same ⟨rfl, rfl, rfl, rfl, rfl, rfl, by rw [<- hb]; rfl, trivial⟩ rfl) ?_
 refine VCode.iter (fun x : Nat × Nat => mT2 n a m b 10 (m + x.1) 11 (m + x.2)) (fun _ => [.row 7 (rows (A ++ (e :: (y ++ B))))]) (fun x => x.2 - x.1)
  (fun x => x.1 <= x.2 /\ x.2 <= y.length /\ (∀ z, 0 < x.1 -> y[x.1 - 1]? = some z -> bytesLt z.n e.n = true) /\ (∀ z, y[x.2]? = some z -> bytesLt e.n z.n = true)) ?_ (0, y.length) ⟨Nat.zero_le _, Nat.le_refl _, fun z h => absurd h (Nat.lt_irrefl _), fun z h => by rw [List.getElem?_eq_none (Nat.le_refl _)] at h; cases h⟩
 rintro ⟨s, t⟩ ⟨hst, hty, h1, h2⟩
 have hst : s <= t := hst
 have hty : t <= y.length := hty
 have h1 : ∀ z, 0 < s -> y[s - 1]? = some z -> bytesLt z.n e.n = true := h1
 have h2 : ∀ z, y[t]? = some z -> bytesLt e.n z.n = true := h2
 refine vci (fun hg => ?_) (fun hg => ?_)
 ·have hg' : s < t := by have h0 : m + s < m + t := dlt hg; omega
  have hhf := half (i := m + s) (j := m + t) (by omega)
  obtain ⟨h, hh⟩ : ∃ h, (m + s + (m + t)) / 2 = m + h := ⟨(s + t) / 2, by omega⟩
  rw [hh] at hhf
  have hhs : s <= h := by omega
  have hht : h < t := by omega
  have hgy := gy h (by omega)
  have hyh : y[h]? = some y[h] := List.getElem?_eq_getElem (by omega)
  have hym : y[h] ∈ y := List.getElem_mem _
  generalize y[h] = z at hgy hyh hym
  have hnz : nth (rows (A ++ (e :: (y ++ B)))) (0 + (m + h)) = some ((fe z).map V.d) := by rw [Nat.zero_add]; exact rows_get hgy
  have hne1 : nth (rows (A ++ (e :: (y ++ B)))) (0 + a) = some ((fe e).map V.d) := by rw [Nat.zero_add]; exact rows_get ge
  have lt1 : m + h < n := by omega
  have lt2 : a < n := by omega
  repeat first
   | refine vnf hhf ?_
   | refine vnf rfl ?_
   | refine exf _ hnz ?_
   | refine exf _ hne1 ?_
   | refine vni lt1 ?_
   | refine vni lt2 ?_
   | refine vni (by repeat' (first | exact trivial | exact rfl | exact lt1 | exact lt2 | refine vnf hhf ?_ | refine vnf rfl ?_ | refine exf _ hnz ?_ | refine exf _ hne1 ?_ | refine vni lt1 ?_ | refine vni lt2 ?_ | refine And.intro ?_ ?_)) ?_
  refine cmp1_spec z e ?_
  repeat first
   | refine vnf hhf ?_
   | refine vnf rfl ?_
   | refine exf _ hnz ?_
   | refine exf _ hne1 ?_
   | refine vni lt1 ?_
   | refine vni lt2 ?_
   | refine vni (by repeat' (first | exact trivial | exact rfl | exact lt1 | exact lt2 | refine vnf hhf ?_ | refine vnf rfl ?_ | refine exf _ hnz ?_ | refine exf _ hne1 ?_ | refine vni lt1 ?_ | refine vni lt2 ?_ | refine And.intro ?_ ?_)) ?_
  refine vci (fun hq => ?_) (fun hq => ?_)
  ·have hq' : bytesLt z.n e.n = true := by rw [<- so_lt]; exact hq
   refine ⟨(h + 1, t), ⟨hht, hty, fun w _ hw => ?_, h2⟩, by show t - (h + 1) < t - s; omega, .same ⟨rfl, rfl, rfl, rfl, rfl, int_eq ?_, rfl, trivial⟩ rfl, rfl, rfl⟩
   ·have : y[h]? = some w := hw
    rw [hyh] at this; cases this; exact hq'
   ·rw [hhf]; exact wrap_succ (by omega)
  ·have hq' : bytesLt z.n e.n = false := by rw [<- so_lt]; exact hq
   have hze : bytesLt e.n z.n = true := blt_tot _ _ hq' (hne z hym)
   refine ⟨(s, h), ⟨hhs, by show h <= y.length; omega, h1, fun w hw => ?_⟩, by show h - s < t - s; omega, .same ⟨rfl, rfl, rfl, rfl, rfl, rfl, int_eq hhf, trivial⟩ rfl, rfl, rfl⟩
   have : y[h]? = some w := hw
   rw [hyh] at this; cases this; exact hze
 ·have hg' : t <= s := by have h0 : m + t <= m + s := dnlt hg; omega
  obtain rfl : s = t := by omega
  have hres := merge_first sy hnd s hty h1 h2
  refine VCode.arr (tm0 := mT2 n a m b 10 (m + s) 13 (a + 0)) (σ0 := [.row 7 (rows (A ++ (y.take 0 ++ (e :: (y.drop 0 ++ B)))))]) (.same ⟨rfl, rfl, rfl, rfl, rfl, rfl, rfl, trivial⟩ rfl) ?_
  refine VCode.iter (fun c : Nat => mT2 n a m b 10 (m + s) 13 (a + c)) (fun c => [.row 7 (rows (A ++ (y.take c ++ (e :: (y.drop c ++ B)))))]) (fun c => s - c) (fun c => c <= s) ?_ 0 (Nat.zero_le _)
  intro c hcs
  have hw2 : IntKind.i64.wrap (Int.ofNat (m + s) - 1) = Int.ofNat (a + s) := by
   have := wrap_sub (a := m + s) (b := 1) (by omega) (by omega)
   rw [show m + s - 1 = a + s from by omega] at this
   exact this
  refine vci (fun hg2 => ?_) (fun hg2 => ?_)
  ·have hcs' : c < s := by
    have h0 := of_decide_eq_true hg2
    rw [hw2] at h0
    simp only [Int.ofNat_eq_natCast] at h0
    omega
   have hcy : c < y.length := by omega
   have ec : y.drop c = y[c] :: y.drop (c + 1) := List.drop_eq_getElem_cons hcy
   have et : y.take (c + 1) = y.take c ++ [y[c]] := by rw [List.take_add_one, List.getElem?_eq_getElem hcy]; rfl
   have hlt : (y.take c).length = c := by simp; omega
   have hf1 : A ++ (y.take c ++ (e :: (y.drop c ++ B))) = (A ++ y.take c) ++ e :: ([] ++ y[c] :: (y.drop (c + 1) ++ B)) := by rw [ec]; simp only [List.append_assoc, List.cons_append, List.nil_append]
   have hf2 : A ++ (y.take (c + 1) ++ (e :: (y.drop (c + 1) ++ B))) = (A ++ y.take c) ++ y[c] :: ([] ++ e :: (y.drop (c + 1) ++ B)) := by rw [et]; simp only [List.append_assoc, List.cons_append, List.nil_append]
   have hi1 : a + c = (A ++ y.take c).length := by rw [List.length_append, hlt]; omega
   have g1 := get_mid (A ++ y.take c) ([] ++ y[c] :: (y.drop (c + 1) ++ B)) e (a + c) hi1
   have g2 := get_mid2 (A ++ y.take c) [] (y.drop (c + 1) ++ B) e y[c] (a + c + 1) (by rw [<- hi1]; rfl)
   have gs := swap_at (A ++ y.take c) [] (y.drop (c + 1) ++ B) e y[c] (a + c) (a + c + 1) hi1 (by rw [<- hi1]; rfl)
   rw [<- hf1] at g1 g2 gs
   rw [<- hf2] at gs
   generalize y[c] = z at g1 g2 gs
   generalize hcur : A ++ (y.take c ++ (e :: (y.drop c ++ B))) = cur at g1 g2 gs
   have hne1 : nth (rows cur) (0 + (a + c)) = some ((fe e).map V.d) := by rw [Nat.zero_add]; exact rows_get g1
   have hnz : nth (rows cur) (0 + (a + c + 1)) = some ((fe z).map V.d) := by rw [Nat.zero_add]; exact rows_get g2
   have hnz2 : nth ((rows cur).set (0 + (a + c)) ((fe z).map V.d)) (0 + (a + c + 1)) = some ((fe z).map V.d) := by
    rw [nth_eq, List.getElem?_set_ne (by omega), <- nth_eq]; exact hnz
   have hhf : IntKind.i64.wrap (Int.ofNat (a + c) + 1) = Int.ofNat (a + c + 1) := wrap_succ (by omega)
   have lt1 : a + c + 1 < n := by omega
   have lt2 : a + c < n := by omega
   repeat first
    | refine vnf hhf ?_
    | refine vnf rfl ?_
    | refine exf _ hnz2 ?_
    | refine exf _ hne1 ?_
    | refine exf _ hnz ?_
    | refine vni lt1 ?_
    | refine vni lt2 ?_
    | refine vni (by repeat' (first | exact trivial | exact rfl | exact lt1 | exact lt2 | refine vnf hhf ?_ | refine vnf rfl ?_ | refine exf _ hnz2 ?_ | refine exf _ hne1 ?_ | refine exf _ hnz ?_ | refine vni lt1 ?_ | refine vni lt2 ?_ | refine And.intro ?_ ?_)) ?_
   refine ⟨c + 1, hcs', by show s - (c + 1) < s - c; omega, .same ⟨rfl, rfl, rfl, rfl, rfl, rfl, int_eq hhf, trivial⟩ ?_, rfl, rfl⟩
   rw [<- gs, <- rows_set, <- rows_set, Nat.zero_add, Nat.zero_add]
   rfl
  ·have hcs' : c = s := by
    have h0 := of_decide_eq_false hg2
    rw [hw2] at h0
    simp only [Int.ofNat_eq_natCast] at h0
    omega
   subst hcs'
   refine ⟨?_, rfl⟩
   rw [hres]
   simp
set_option maxRecDepth 100000 in
set_option maxHeartbeats 8000000 in
theorem merge2_spec (A x : List FE) (e : FE) (B : List FE) (hx1 : x.length ≠ 1) (sx : Srt FE.n x) (hnd : ((x ++ [e]).map FE.n).Nodup) (n a m b : Nat) (hn : n = (A ++ (x ++ (e :: B))).length) (ha : a = A.length) (hm : m = a + x.length) (hb : b = m + 1) (hl : n < 4294967296) :
  VCall C intr0 F.slices_symMergeCmpFunc_api_Field [.ms 0 7 0 n n, intV a, intV m, intV b, cmpV] [.row 7 (rows (A ++ (x ++ (e :: B))))] fun r σ' => σ' = [.row 7 (rows (A ++ (isortK FE.n (x ++ [e]) ++ B)))] /\ r = .ret (.tup []) := by
 have hsz : n = A.length + (x.length + (B.length + 1)) := by rw [hn]; simp
 have hne : ∀ z ∈ x, z.n ≠ e.n := by
  intro z hz he
  rw [List.map_append, List.nodup_append] at hnd
  exact hnd.2.2 z.n (List.mem_map_of_mem hz) e.n (by simp) he
 have hw1 : IntKind.i64.wrap (Int.ofNat m - Int.ofNat a) ≠ 1 := by
  rw [wrap_sub (by omega) (by omega), show m - a = x.length from by omega]
  simp only [Int.ofNat_eq_natCast]
  omega
 have hw2 : IntKind.i64.wrap (Int.ofNat b - Int.ofNat m) = 1 := by
  rw [wrap_sub (by omega) (by omega), show b - m = 1 from by omega]; rfl
 have ge : (A ++ (x ++ (e :: B)))[m]? = some e := by
  have := get_mid (A ++ x) B e m (by simp; omega)
  rw [List.append_assoc] at this; exact this
 have gx : ∀ s (h : s < x.length), (A ++ (x ++ (e :: B)))[a + s]? = some x[s] := by
  intro s h
  rw [List.getElem?_append_right (by omega), show a + s - A.length = s from by omega, List.getElem?_append_left h, List.getElem?_eq_getElem h]
 refine VCall.b0 nofz (fun _ => rfl) ?_
 refine vcn (decide_eq_false hw1) ?_
 refine vcp (decide_eq_true hw2) ?_
 refine VCode.arr (tm0 := mT2 n a m b 14 (a + 0) 15 (a + x.length)) (σ0 := [.row 7 (rows (A ++ (x ++ (e :: B))))]) (.same ⟨rfl, rfl, rfl, rfl, rfl, rfl, by rw [<- hm]; rfl, trivial⟩ rfl) ?_
 refine VCode.iter (fun y : Nat × Nat => mT2 n a m b 14 (a + y.1) 15 (a + y.2)) (fun _ => [.row 7 (rows (A ++ (x ++ (e :: B))))]) (fun y => y.2 - y.1)
  (fun y => y.1 <= y.2 /\ y.2 <= x.length /\ (∀ z, 0 < y.1 -> x[y.1 - 1]? = some z -> bytesLt z.n e.n = true) /\ (∀ z, x[y.2]? = some z -> bytesLt e.n z.n = true)) ?_ (0, x.length) ⟨Nat.zero_le _, Nat.le_refl _, fun z h => absurd h (Nat.lt_irrefl _), fun z h => by rw [List.getElem?_eq_none (Nat.le_refl _)] at h; cases h⟩
 rintro ⟨s, t⟩ ⟨hst, hty, h1, h2⟩
 have hst : s <= t := hst
 have hty : t <= x.length := hty
 have h1 : ∀ z, 0 < s -> x[s - 1]? = some z -> bytesLt z.n e.n = true := h1
 have h2 : ∀ z, x[t]? = some z -> bytesLt e.n z.n = true := h2
 refine vci (fun hg => ?_) (fun hg => ?_)
 ·have hg' : s < t := by have h0 : a + s < a + t := dlt hg; omega
  have hhf := half (i := a + s) (j := a + t) (by omega)
  obtain ⟨h, hh⟩ : ∃ h, (a + s + (a + t)) / 2 = a + h := ⟨(s + t) / 2, by omega⟩
  rw [hh] at hhf
  have hhs : s <= h := by omega
  have hht : h < t := by omega
  have hgx := gx h (by omega)
  have hxh : x[h]? = some x[h] := List.getElem?_eq_getElem (by omega)
  have hxm : x[h] ∈ x := List.getElem_mem _
  generalize x[h] = z at hgx hxh hxm
  have hnz : nth (rows (A ++ (x ++ (e :: B)))) (0 + (a + h)) = some ((fe z).map V.d) := by rw [Nat.zero_add]; exact rows_get hgx
  have hne1 : nth (rows (A ++ (x ++ (e :: B)))) (0 + m) = some ((fe e).map V.d) := by rw [Nat.zero_add]; exact rows_get ge
  have lt1 : a + h < n := by omega
  have lt2 : m < n := by omega
  repeat first
   | refine vnf hhf ?_
   | refine vnf rfl ?_
   | refine exf _ hnz ?_
   | refine exf _ hne1 ?_
   | refine vni lt1 ?_
   | refine vni lt2 ?_
   | refine vni (by repeat' (first | exact trivial | exact rfl | exact lt1 | exact lt2 | refine vnf hhf ?_ | refine vnf rfl ?_ | refine exf _ hnz ?_ | refine exf _ hne1 ?_ | refine vni lt1 ?_ | refine vni lt2 ?_ | refine And.intro ?_ ?_)) ?_
  refine cmp1_spec e z ?_
  repeat first
   | refine vnf hhf ?_
   | refine vnf rfl ?_
   | refine exf _ hnz ?_
   | refine exf _ hne1 ?_
   | refine vni lt1 ?_
   | refine vni lt2 ?_
   | refine vni (by repeat' (first | exact trivial | exact rfl | exact lt1 | exact lt2 | refine vnf hhf ?_ | refine vnf rfl ?_ | refine exf _ hnz ?_ | refine exf _ hne1 ?_ | refine vni lt1 ?_ | refine vni lt2 ?_ | refine And.intro ?_ ?_)) ?_
  refine vci (fun hq => ?_) (fun hq => ?_)
  ·have hq' : bytesLt e.n z.n = false := by rw [<- so_lt]; simpa using hq
   have hze : bytesLt z.n e.n = true := blt_tot _ _ hq' (fun h => hne z hxm h.symm)
   refine ⟨(h + 1, t), ⟨hht, hty, fun w _ hw => ?_, h2⟩, by show t - (h + 1) < t - s; omega, .same ⟨rfl, rfl, rfl, rfl, rfl, int_eq ?_, rfl, trivial⟩ rfl, rfl, rfl⟩
   ·have : x[h]? = some w := hw
    rw [hxh] at this; cases this; exact hze
   ·rw [hhf]; exact wrap_succ (by omega)
  ·have hq' : bytesLt e.n z.n = true := by rw [<- so_lt]; simpa using hq
   refine ⟨(s, h), ⟨hhs, by show h <= x.length; omega, h1, fun w hw => ?_⟩, by show h - s < t - s; omega, .same ⟨rfl, rfl, rfl, rfl, rfl, rfl, int_eq hhf, trivial⟩ rfl, rfl, rfl⟩
   have : x[h]? = some w := hw
   rw [hxh] at this; cases this; exact hq'
 ·have hg' : t <= s := by have h0 : a + t <= a + s := dnlt hg; omega
  obtain rfl : s = t := by omega
  have hres := merge_last sx hnd s hty h1 h2
  refine VCode.arr (tm0 := mT2 n a m b 14 (a + s) 17 (a + x.length)) (σ0 := [.row 7 (rows (A ++ (x.take x.length ++ (e :: (x.drop x.length ++ B)))))]) (.same ⟨rfl, rfl, rfl, rfl, rfl, rfl, by rw [<- hm]; rfl, trivial⟩ (by rw [List.take_length, List.drop_length]; rfl)) ?_
  refine VCode.iter (fun c : Nat => mT2 n a m b 14 (a + s) 17 (a + c)) (fun c => [.row 7 (rows (A ++ (x.take c ++ (e :: (x.drop c ++ B)))))]) (fun c => c) (fun c => s <= c /\ c <= x.length) ?_ x.length ⟨hty, Nat.le_refl _⟩
  rintro c ⟨hcs, hcx⟩
  refine vci (fun hg2 => ?_) (fun hg2 => ?_)
  ·have hcs' : s < c := by have h0 : a + s < a + c := dlt hg2; omega
   obtain ⟨c, rfl⟩ : ∃ d, c = d + 1 := ⟨c - 1, by omega⟩
   have hcy : c < x.length := by omega
   have ec : x.drop c = x[c] :: x.drop (c + 1) := List.drop_eq_getElem_cons hcy
   have et : x.take (c + 1) = x.take c ++ [x[c]] := by rw [List.take_add_one, List.getElem?_eq_getElem hcy]; rfl
   have hlt : (x.take c).length = c := by simp; omega
   have hf1 : A ++ (x.take (c + 1) ++ (e :: (x.drop (c + 1) ++ B))) = (A ++ x.take c) ++ x[c] :: ([] ++ e :: (x.drop (c + 1) ++ B)) := by rw [et]; simp only [List.append_assoc, List.cons_append, List.nil_append]
   have hf2 : A ++ (x.take c ++ (e :: (x.drop c ++ B))) = (A ++ x.take c) ++ e :: ([] ++ x[c] :: (x.drop (c + 1) ++ B)) := by rw [ec]; simp only [List.append_assoc, List.cons_append, List.nil_append]
   have hi1 : a + c = (A ++ x.take c).length := by rw [List.length_append, hlt]; omega
   have g1 := get_mid (A ++ x.take c) ([] ++ e :: (x.drop (c + 1) ++ B)) x[c] (a + c) hi1
   have g2 := get_mid2 (A ++ x.take c) [] (x.drop (c + 1) ++ B) x[c] e (a + (c + 1)) (by rw [<- hi1]; rfl)
   have gs := swap_at' (A ++ x.take c) [] (x.drop (c + 1) ++ B) x[c] e (a + c) (a + (c + 1)) hi1 (by rw [<- hi1]; rfl)
   rw [<- hf1] at g1 g2 gs
   rw [<- hf2] at gs
   generalize x[c] = z at g1 g2 gs
   generalize hcur : A ++ (x.take (c + 1) ++ (e :: (x.drop (c + 1) ++ B))) = cur at g1 g2 gs
   have hne1 : nth (rows cur) (0 + (a + (c + 1))) = some ((fe e).map V.d) := by rw [Nat.zero_add]; exact rows_get g2
   have hnz : nth (rows cur) (0 + (a + c)) = some ((fe z).map V.d) := by rw [Nat.zero_add]; exact rows_get g1
   have hnz2 : nth ((rows cur).set (0 + (a + (c + 1))) ((fe z).map V.d)) (0 + (a + c)) = some ((fe z).map V.d) := by
    rw [nth_eq, List.getElem?_set_ne (by omega), <- nth_eq]; exact hnz
   have hhf : IntKind.i64.wrap (Int.ofNat (a + (c + 1)) - 1) = Int.ofNat (a + c) := by
    have := wrap_sub (a := a + (c + 1)) (b := 1) (by omega) (by omega)
    rw [show a + (c + 1) - 1 = a + c from by omega] at this
    exact this
   have lt1 : a + (c + 1) < n := by omega
   have lt2 : a + c < n := by omega
   subst hcur
   repeat first
    | refine vnf hhf ?_
    | refine vnf rfl ?_
    | refine exf _ hnz2 ?_
    | refine exf _ hne1 ?_
    | refine exf _ hnz ?_
    | refine vni lt1 ?_
    | refine vni lt2 ?_
    | refine vni (by repeat' (first | exact trivial | exact rfl | exact lt1 | exact lt2 | refine vnf hhf ?_ | refine vnf rfl ?_ | refine exf _ hnz2 ?_ | refine exf _ hne1 ?_ | refine exf _ hnz ?_ | refine vni lt1 ?_ | refine vni lt2 ?_ | refine And.intro ?_ ?_)) ?_
   refine ⟨c, ⟨by omega, by omega⟩, by show c < c + 1; omega, .same ⟨rfl, rfl, rfl, rfl, rfl, rfl, int_eq hhf, trivial⟩ ?_, rfl, rfl⟩
   rw [<- gs, <- rows_set, <- rows_set, Nat.zero_add, Nat.zero_add]
   rfl
  ·have hcs' : c = s := by have h0 : a + c <= a + s := dnlt hg2; omega
   subst hcs'
   refine ⟨?_, rfl⟩
   rw [hres]
   simp
end Go.Proofs.YthfehkcfhiilfaaGreatDoor
