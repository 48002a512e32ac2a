/- Sorting in place: merging, the whole sort. -/
import Derived.Test.YthfehkcfhiilfaaGreatDoorKSb
namespace Go.Proofs.YthfehkcfhiilfaaGreatDoor set_option linter.unusedSimpArgs false set_option linter.unusedVariables false
open Go.AM Go.VM
def MergeOk (N : Nat) : Prop := ∀ (A x y B : List FE), 0 < x.length -> 0 < y.length -> Srt FE.n x -> Srt FE.n y -> ((x ++ y).map FE.n).Nodup -> ∀ (n a m b : Nat), n = (A ++ (x ++ (y ++ B))).length -> a = A.length -> m = a + x.length -> b = m + y.length -> n < 4294967296 -> x.length + y.length <= N ->
  VCall C intr0 F.slices_symMergeCmpFunc_api_Field [.ms 0 7 0 n n, intV a, intV m, intV b, cmpV] [.row 7 (rows (A ++ (x ++ (y ++ B))))] fun r σ' => σ' = [.row 7 (rows (A ++ (isortK FE.n (x ++ y) ++ B)))] /\ r = .ret (.tup [])
theorem merge_call (N : Nat) (ih : MergeOk N) (A x y B : List FE) (hx : 0 < x.length) (hy : 0 < y.length) (sx : Srt FE.n x) (sy : Srt FE.n y) (hnd : ((x ++ y).map FE.n).Nodup) (n a m b : Nat) (X : List FE) (hX : X = A ++ (x ++ (y ++ B))) (ha : a = A.length) (hm : m = a + x.length) (hb : b = m + y.length) (hn : n = A.length + (x.length + (y.length + B.length)) ∨ n = (A ++ (x ++ (y ++ B))).length) (hl : n < 4294967296) (hN : x.length + y.length <= N)
  {a' m' b' : V} (ha' : a' = intV a) (hm' : m' = intV m) (hb' : b' = intV b) {K : VCR -> VS -> Prop} (hK : K (.ret (.tup [])) [.row 7 (rows (A ++ (isortK FE.n (x ++ y) ++ B)))]) : VCall C intr0 F.slices_symMergeCmpFunc_api_Field [.ms 0 7 0 n n, a', m', b', cmpV] [.row 7 (rows X)] K := by
 subst ha' hm' hb' hX
 refine (ih A x y B hx hy sx sy hnd n a m b ?_ ha hm hb hl hN).mono (fun r σ' h => ?_)
 ·rcases hn with h | h
  ·rw [h]; simp
  ·exact h
 ·rw [h.1, h.2]
  exact hK
theorem rotate_call (A u v B : List FE) (hu : 0 < u.length) (hv : 0 < v.length) (n a m b : Nat) (X : List FE) (hX : X = A ++ (u ++ (v ++ B))) (hn : n = A.length + (u.length + (v.length + B.length))) (ha : a = A.length) (hm : m = A.length + u.length) (hb : b = A.length + u.length + v.length) (hl : n < 4294967296)
  {a' m' b' : V} (ha' : a' = intV a) (hm' : m' = intV m) (hb' : b' = intV b) {K : VCR -> VS -> Prop} (hK : K (.ret (.tup [])) [.row 7 (rows (A ++ (v ++ (u ++ B))))]) : VCall C intr0 F.slices_rotateCmpFunc_api_Field [.ms 0 7 0 n n, a', m', b', cmpV] [.row 7 (rows X)] K := by
 subst ha' hm' hb' hX
 refine (rotate_spec0 A u v B hu hv n a m b (by rw [hn]; simp) ha hm (by omega) hl).mono (fun r σ' h => ?_)
 rw [h.1, h.2]
 exact hK
def m3fz : Nat -> Bool := fun t => Nat.beq t 1000032 || Nat.beq t 1000041 || Nat.beq t 1000043
def m2T (n a m b mid s r : Nat) : Tm := [(0, .ms 0 7 0 n n), (1, intV a), (2, intV m), (3, intV b), (4, cmpV), (18, intV mid), (19, intV (mid + m)), (20, intV s), (21, intV r)]
def m4T (n a m b mid s en : Nat) : Tm := [(0, .ms 0 7 0 n n), (1, intV a), (2, intV m), (3, intV b), (4, cmpV), (18, intV mid), (20, intV s), (24, intV en)]
def m3T (n a m b mid s r : Nat) : Tm := [(0, .ms 0 7 0 n n), (1, intV a), (2, intV m), (3, intV b), (4, cmpV), (18, intV mid), (19, intV (mid + m)), (20, intV s), (21, intV r), (22, intV (mid + m - 1))]
theorem ar1 {mid m s en : Nat} (h : en = mid + m - s) (h2 : en <= m) (h3 : s <= m) : mid - s = 0 := by omega
theorem ar2 {mid m s en : Nat} (h : en = mid + m - s) (h2 : en <= mid) (h3 : s <= mid) : m - s = 0 := by omega
theorem ar3 {mid m s en : Nat} (h : en = mid + m - s) (h2 : m < en) (h3 : s <= m) : 0 < mid - s := by omega
theorem ar5 {mid m s en : Nat} (h : en = mid + m - s) (h2 : mid < en) (h3 : s <= mid) : 0 < m - s := by omega
abbrev rawH (i j : Nat) : Int := IntKind.i64.wrap (Int.fdiv (IntKind.u64.wrap (IntKind.i64.wrap (Int.ofNat i + Int.ofNat j))) (2 ^ (min 1 IntKind.u64.bits)))
set_option maxRecDepth 100000 in
set_option maxHeartbeats 16000000 in
theorem merge3_spec (N : Nat) (ih : MergeOk N) (A x y B : List FE) (hx2 : 1 < x.length) (hy2 : 1 < y.length) (sx : Srt FE.n x) (sy : Srt FE.n y) (hnd : ((x ++ y).map FE.n).Nodup) (n a m b : Nat) (hn : n = (A ++ (x ++ (y ++ B))).length) (ha : a = A.length) (hm : m = a + x.length) (hb : b = m + y.length) (hl : n < 4294967296) (hN : x.length + y.length <= N + 1) :
  VCall C intr0 F.slices_symMergeCmpFunc_api_Field [.ms 0 7 0 n n, intV a, intV m, intV b, cmpV] [.row 7 (rows (A ++ (x ++ (y ++ B))))] fun r σ' => σ' = [.row 7 (rows (A ++ (isortK FE.n (x ++ y) ++ B)))] /\ r = .ret (.tup []) := by
 have hsz : n = A.length + (x.length + (y.length + B.length)) := by rw [hn]; simp
 have hdis : ∀ z ∈ x, ∀ w ∈ y, z.n ≠ w.n := by
  intro z hz w hw he
  rw [List.map_append, List.nodup_append] at hnd
  exact hnd.2.2 z.n (List.mem_map_of_mem hz) w.n (List.mem_map_of_mem hw) he
 have hw1 : IntKind.i64.wrap (Int.ofNat m - Int.ofNat a) ≠ 1 := by
  rw [wrap_sub (by omega) (by omega), show m - a = x.length from by omega]
  simp only [Int.ofNat_eq_natCast]
  omega
 have hw2 : IntKind.i64.wrap (Int.ofNat b - Int.ofNat m) ≠ 1 := by
  rw [wrap_sub (by omega) (by omega), show b - m = y.length from by omega]
  simp only [Int.ofNat_eq_natCast]
  omega
 have gx : ∀ s (h : s < x.length), (A ++ (x ++ (y ++ B)))[a + s]? = some x[s] := by
  intro s h
  rw [List.getElem?_append_right (by omega), show a + s - A.length = s from by omega, List.getElem?_append_left h, List.getElem?_eq_getElem h]
 have gy : ∀ s (h : s < y.length), (A ++ (x ++ (y ++ B)))[m + s]? = some y[s] := by
  intro s h
  rw [List.getElem?_append_right (by omega), List.getElem?_append_right (by omega), show m + s - A.length - x.length = s from by omega, List.getElem?_append_left h, List.getElem?_eq_getElem h]
 obtain ⟨mid, hmd⟩ : ∃ mid, (a + b) / 2 = mid := ⟨_, rfl⟩
 have hmid : rawH a b = Int.ofNat mid := by rw [<- hmd]; exact half (by omega)
 have hn0 : IntKind.i64.wrap (rawH a b + Int.ofNat m) = Int.ofNat (mid + m) := by rw [hmid, wrap_add (by omega)]
 have eP : IntKind.i64.wrap (Int.ofNat (mid + m) - 1) = Int.ofNat (mid + m - 1) := wrap_sub (b := 1) (by omega) (by omega)
 refine VCall.b0 m3fz (fun _ => rfl) ?_
 refine vcn (decide_eq_false hw1) ?_
 refine vcn (decide_eq_false hw2) ?_
 refine vnf rfl ?_
 apply VCode.join (ι := Nat × Nat) (T := fun z => m2T n a m b mid z.1 z.2) (S := fun _ => [.row 7 (rows (A ++ (x ++ (y ++ B))))])
  (I := fun z => a <= z.1 /\ z.1 <= z.2 /\ z.2 <= m /\ z.2 <= mid /\ mid + m <= z.1 + b /\ (z.1 = a ∨ (b <= mid + m /\ z.1 = mid + m - b)) /\ (z.2 = m ∨ z.2 = mid))
 ·intro hC
  refine vci (fun hq0 => ?_) (fun hq0 => ?_)
  ·have hq1 : mid < m := by
    have h0 : decide (rawH a b < Int.ofNat m) = true := hq0
    rw [hmid] at h0
    exact dlt h0
   have eS : IntKind.i64.wrap (IntKind.i64.wrap (rawH a b + Int.ofNat m) - Int.ofNat b) = Int.ofNat (mid + m - b) := by
    rw [hn0]; exact wrap_sub (by omega) (by omega)
   exact VCode.arr (tm0 := m2T n a m b mid (mid + m - b) mid) (σ0 := [.row 7 (rows (A ++ (x ++ (y ++ B))))]) (.same ⟨rfl, rfl, rfl, rfl, rfl, int_eq hmid, int_eq hn0, int_eq eS, int_eq hmid, trivial⟩ rfl) (hC (mid + m - b, mid) ⟨by show a <= mid + m - b; omega, by show mid + m - b <= mid; omega, by show mid <= m; omega, Nat.le_refl _, by show mid + m <= mid + m - b + b; omega, .inr ⟨by omega, rfl⟩, .inr rfl⟩)
  ·have hq1 : m <= mid := by
    have h0 : decide (rawH a b < Int.ofNat m) = false := hq0
    rw [hmid] at h0
    exact dnlt h0
   exact VCode.arr (tm0 := m2T n a m b mid a m) (σ0 := [.row 7 (rows (A ++ (x ++ (y ++ B))))]) (.same ⟨rfl, rfl, rfl, rfl, rfl, int_eq hmid, int_eq hn0, rfl, rfl, trivial⟩ rfl) (hC (a, m) ⟨Nat.le_refl _, by show a <= m; omega, Nat.le_refl _, hq1, by show mid + m <= a + b; omega, .inl rfl, .inl rfl⟩)
 ·rintro ⟨S0, R0⟩ ⟨f1, f2, f3, f4, f7, f5, f6⟩
  have f1 : a <= S0 := f1
  have f2 : S0 <= R0 := f2
  have f3 : R0 <= m := f3
  have f4 : R0 <= mid := f4
  have f7 : mid + m <= S0 + b := f7
  have f5 : S0 = a ∨ (b <= mid + m /\ S0 = mid + m - b) := f5
  have f6 : R0 = m ∨ R0 = mid := f6
  refine VCode.arr (tm0 := m3T n a m b mid S0 R0) (σ0 := [.row 7 (rows (A ++ (x ++ (y ++ B))))]) (.same ⟨rfl, rfl, rfl, rfl, rfl, rfl, rfl, rfl, rfl, int_eq eP, trivial⟩ rfl) ?_
  refine VCode.iter (fun z : Nat × Nat => m3T n a m b mid z.1 z.2) (fun _ => [.row 7 (rows (A ++ (x ++ (y ++ B))))]) (fun z => z.2 - z.1)
   (fun z => S0 <= z.1 /\ z.1 <= z.2 /\ z.2 <= R0 /\ (∀ u v, S0 < z.1 -> x[z.1 - 1 - a]? = some u -> y[mid - z.1]? = some v -> bytesLt u.n v.n = true) /\ (∀ u v, z.2 < R0 -> y[mid - 1 - z.2]? = some u -> x[z.2 - a]? = some v -> bytesLt u.n v.n = true)) ?_ (S0, R0) ⟨Nat.le_refl _, f2, Nat.le_refl _, fun u v h => absurd h (Nat.lt_irrefl _), fun u v h => absurd h (Nat.lt_irrefl _)⟩
  rintro ⟨s, r⟩ ⟨g1, g2, g3, g4, g5⟩
  have g1 : S0 <= s := g1
  have g2 : s <= r := g2
  have g3 : r <= R0 := g3
  have g4 : ∀ u v, S0 < s -> x[s - 1 - a]? = some u -> y[mid - s]? = some v -> bytesLt u.n v.n = true := g4
  have g5 : ∀ u v, r < R0 -> y[mid - 1 - r]? = some u -> x[r - a]? = some v -> bytesLt u.n v.n = true := g5
  refine vci (fun hg => ?_) (fun hg => ?_)
  ·have hg' : s < r := dlt hg
   have hhf := half (i := s) (j := r) (by omega)
   obtain ⟨c, hc⟩ : ∃ c, (s + r) / 2 = c := ⟨_, rfl⟩
   rw [hc] at hhf
   have hcs : s <= c := by omega
   have hcr : c < r := by omega
   have hiy : mid - 1 - c < y.length := by omega
   have hix : c - a < x.length := by omega
   have hyg := gy (mid - 1 - c) hiy
   have hxg := gx (c - a) hix
   have hyh : y[mid - 1 - c]? = some y[mid - 1 - c] := List.getElem?_eq_getElem hiy
   have hxh : x[c - a]? = some x[c - a] := List.getElem?_eq_getElem hix
   have hne := hdis x[c - a] (List.getElem_mem _) y[mid - 1 - c] (List.getElem_mem _)
   generalize x[c - a] = u at hxg hxh hne
   generalize y[mid - 1 - c] = v at hyg hyh hne
   have hny : nth (rows (A ++ (x ++ (y ++ B)))) (0 + (m + (mid - 1 - c))) = some ((fe v).map V.d) := by rw [Nat.zero_add]; exact rows_get hyg
   have hnx : nth (rows (A ++ (x ++ (y ++ B)))) (0 + c) = some ((fe u).map V.d) := by rw [Nat.zero_add, show c = a + (c - a) from by omega]; exact rows_get hxg
   have lt1 : m + (mid - 1 - c) < n := by omega
   have lt2 : c < n := by omega
   have hwp : IntKind.i64.wrap (Int.ofNat (mid + m - 1) - IntKind.i64.wrap (Int.fdiv (IntKind.u64.wrap (IntKind.i64.wrap (Int.ofNat s + Int.ofNat r))) (2 ^ (min 1 IntKind.u64.bits)))) = Int.ofNat (m + (mid - 1 - c)) := by
    rw [hhf, wrap_sub (by omega) (by omega)]
    congr 1
    omega
   repeat first
    | refine vnf hwp ?_
    | refine vnf hhf ?_
    | refine vnf rfl ?_
    | refine exf _ hny ?_
    | refine exf _ hnx ?_
    | refine vni lt1 ?_
    | refine vni lt2 ?_
    | refine vni (by repeat' (first | exact trivial | exact rfl | exact lt1 | exact lt2 | refine vnf hwp ?_ | refine vnf hhf ?_ | refine vnf rfl ?_ | refine exf _ hny ?_ | refine exf _ hnx ?_ | refine vni lt1 ?_ | refine vni lt2 ?_ | refine And.intro ?_ ?_)) ?_
   refine cmp1_spec v u ?_
   repeat first
    | refine vnf hwp ?_
    | refine vnf hhf ?_
    | refine vnf rfl ?_
    | refine exf _ hny ?_
    | refine exf _ hnx ?_
    | refine vni lt1 ?_
    | refine vni lt2 ?_
    | refine vni (by repeat' (first | exact trivial | exact rfl | exact lt1 | exact lt2 | refine vnf hwp ?_ | refine vnf hhf ?_ | refine vnf rfl ?_ | refine exf _ hny ?_ | refine exf _ hnx ?_ | refine vni lt1 ?_ | refine vni lt2 ?_ | refine And.intro ?_ ?_)) ?_
   refine vci (fun hq => ?_) (fun hq => ?_)
   ·have hq' : bytesLt v.n u.n = false := by rw [<- so_lt]; simpa using hq
    have huv : bytesLt u.n v.n = true := blt_tot _ _ hq' (fun h => hne h.symm)
    refine ⟨(c + 1, r), ⟨by show S0 <= c + 1; omega, hcr, g3, fun u' v' _ hu hv => ?_, g5⟩, by show r - (c + 1) < r - s; omega, .same ⟨rfl, rfl, rfl, rfl, rfl, rfl, rfl, int_eq ?_, rfl, rfl, trivial⟩ rfl, rfl, rfl⟩
    ·have hu : x[c + 1 - 1 - a]? = some u' := hu
     have hv : y[mid - (c + 1)]? = some v' := hv
     rw [show c + 1 - 1 - a = c - a from by omega, hxh] at hu
     rw [show mid - (c + 1) = mid - 1 - c from by omega, hyh] at hv
     cases hu; cases hv; exact huv
    ·rw [hhf]; exact wrap_succ (by omega)
   ·have hq' : bytesLt v.n u.n = true := by rw [<- so_lt]; simpa using hq
    refine ⟨(s, c), ⟨g1, hcs, by show c <= R0; omega, g4, fun u' v' _ hu hv => ?_⟩, by show c - s < r - s; omega, .same ⟨rfl, rfl, rfl, rfl, rfl, rfl, rfl, rfl, int_eq hhf, rfl, trivial⟩ rfl, rfl, rfl⟩
    have hu : y[mid - 1 - c]? = some u' := hu
    have hv : x[c - a]? = some v' := hv
    rw [hyh] at hu
    rw [hxh] at hv
    cases hu; cases hv; exact hq'
  ·have hg' : r <= s := dnlt hg
   obtain rfl : s = r := by omega
   have hcut := merge_cut (key := FE.n) sx sy hnd (s - a) (mid - s) (by omega) (by omega)
    (fun u v h0 hu hv => by
     rcases Nat.lt_or_ge S0 s with h1 | h1
     ·exact g4 u v h1 (by rw [show s - 1 - a = s - a - 1 from by omega]; exact hu) hv
     ·exfalso
      rcases f5 with h2 | h2
      ·omega
      ·rw [List.getElem?_eq_none (by omega)] at hv; cases hv)
    (fun u v h0 hu hv => by
     rcases Nat.lt_or_ge s R0 with h1 | h1
     ·exact g5 u v h1 (by rw [show mid - 1 - s = mid - s - 1 from by omega]; exact hu) hv
     ·exfalso
      rcases f6 with h2 | h2
      ·rw [List.getElem?_eq_none (by omega)] at hv; cases hv
      ·omega)
   obtain ⟨hres, hnd1, hnd2⟩ := hcut
   have hs1 := sx.take (s - a)
   have hs2 := sx.drop (s - a)
   have ht1 := sy.take (mid - s)
   have ht2 := sy.drop (mid - s)
   have lx1 : (x.take (s - a)).length = s - a := by simp; omega
   have lx2 : (x.drop (s - a)).length = m - s := by simp; omega
   have ly1 : (y.take (mid - s)).length = mid - s := by simp; omega
   have ly2 : (y.drop (mid - s)).length = b - (mid + m - s) := by simp; omega
   have hxx : x = x.take (s - a) ++ x.drop (s - a) := (List.take_append_drop _ _).symm
   have hyy : y = y.take (mid - s) ++ y.drop (mid - s) := (List.take_append_drop _ _).symm
   have hndx1 : ((x.take (s - a)).map FE.n).Nodup := by rw [List.map_append, List.nodup_append] at hnd1; exact hnd1.1
   have hndy1 : ((y.take (mid - s)).map FE.n).Nodup := by rw [List.map_append, List.nodup_append] at hnd1; exact hnd1.2.1
   have hndx2 : ((x.drop (s - a)).map FE.n).Nodup := by rw [List.map_append, List.nodup_append] at hnd2; exact hnd2.1
   have hndy2 : ((y.drop (mid - s)).map FE.n).Nodup := by rw [List.map_append, List.nodup_append] at hnd2; exact hnd2.2.1
   have hX0 : A ++ (x ++ (y ++ B)) = A ++ (x.take (s - a) ++ (x.drop (s - a) ++ (y.take (mid - s) ++ (y.drop (mid - s) ++ B)))) := by
    conv => lhs; rw [hxx, hyy]
    simp only [List.append_assoc]
   obtain ⟨en, hen⟩ : ∃ en, en = mid + m - s := ⟨_, rfl⟩
   have hend : IntKind.i64.wrap (Int.ofNat (mid + m) - Int.ofNat s) = Int.ofNat en := by rw [wrap_sub (by omega) (by omega), hen]
   have lA1 : (A ++ (x.take (s - a))).length = s := by rw [List.length_append, lx1]; omega
   have lB2 : ((y.drop (mid - s)) ++ B).length = b - (mid + m - s) + B.length := by rw [List.length_append, ly2]
   have lB3 : ((x.drop (s - a)) ++ ((y.drop (mid - s)) ++ B)).length = m - s + (b - (mid + m - s) + B.length) := by rw [List.length_append, lx2, lB2]
   have lZ : (A ++ isortK FE.n ((x.take (s - a)) ++ (y.take (mid - s)))).length = mid := by rw [List.length_append, isortK_len, List.length_append, lx1, ly1]; omega
   have qs : s <= mid := by omega
   have qm : s <= m := by omega
   have qA1 : s = (A ++ (x.take (s - a))).length := lA1.symm
   have qA2 : m = (A ++ (x.take (s - a))).length + ((x.drop (s - a))).length := by rw [lA1, lx2]; omega
   have qA3 : en = (A ++ (x.take (s - a))).length + ((x.drop (s - a))).length + ((y.take (mid - s))).length := by rw [lA1, lx2, ly1]; omega
   have qA4 : n = (A ++ (x.take (s - a))).length + (((x.drop (s - a))).length + (((y.take (mid - s))).length + ((y.drop (mid - s)) ++ B).length)) := by rw [lA1, lx2, ly1, lB2]; omega
   have qL1 : s = a + ((x.take (s - a))).length := by rw [lx1]; omega
   have qL2 : mid = s + ((y.take (mid - s))).length := by rw [ly1]; omega
   have qL3 : n = A.length + (((x.take (s - a))).length + (((y.take (mid - s))).length + ((x.drop (s - a)) ++ ((y.drop (mid - s)) ++ B)).length)) := by rw [lx1, ly1, lB3]; omega
   have qL4 : ((x.take (s - a))).length + ((y.take (mid - s))).length <= N := by rw [lx1, ly1]; omega
   have qR1 : mid = (A ++ isortK FE.n ((x.take (s - a)) ++ (y.take (mid - s)))).length := lZ.symm
   have qR2 : en = mid + ((x.drop (s - a))).length := by rw [lx2]; omega
   have qR3 : b = en + ((y.drop (mid - s))).length := by rw [ly2]; omega
   have qR4 : n = (A ++ isortK FE.n ((x.take (s - a)) ++ (y.take (mid - s)))).length + (((x.drop (s - a))).length + (((y.drop (mid - s))).length + B.length)) := by rw [lZ, lx2, ly2]; omega
   have qR5 : ((x.drop (s - a))).length + ((y.drop (mid - s))).length <= N := by rw [lx2, ly2]; omega
   apply VCode.join (ι := Unit) (T := fun _ => m4T n a m b mid s en) (S := fun _ => [.row 7 (rows (A ++ ((x.take (s - a)) ++ ((y.take (mid - s)) ++ ((x.drop (s - a)) ++ ((y.drop (mid - s)) ++ B))))))]) (I := fun _ => True)
   ·intro hC
    refine vci (fun c1 => ?_) (fun c1 => ?_)
    ·have c1' : s < m := dlt c1
     repeat refine vcp c1 ?_
     refine vci (fun c2 => ?_) (fun c2 => ?_)
     ·have c2' : m < en := by rw [hend] at c2; exact dlt c2
      repeat (change vcond _ _ _; first | refine vcp (by with_reducible exact c1) ?_ | refine vcp (by with_reducible exact c2) ?_)
      refine rotate_call (A ++ (x.take (s - a))) (x.drop (s - a)) (y.take (mid - s)) ((y.drop (mid - s)) ++ B) (by rw [lx2]; exact Nat.sub_pos_of_lt c1') (by rw [ly1]; exact ar3 hen c2' qm) n s m en _ (by rw [hX0]; simp only [List.append_assoc]) qA4 qA1 qA2 qA3 hl rfl rfl (vi hend) ?_
      refine VCode.arr (tm0 := m4T n a m b mid s en) (σ0 := [.row 7 (rows (A ++ ((x.take (s - a)) ++ ((y.take (mid - s)) ++ ((x.drop (s - a)) ++ ((y.drop (mid - s)) ++ B))))))]) (.same ⟨rfl, rfl, rfl, rfl, rfl, rfl, rfl, int_eq hend, trivial⟩ (by simp only [List.append_assoc])) (hC () trivial)
     ·have c2' : en <= m := by rw [hend] at c2; exact dnlt c2
      repeat (change vcond _ _ _; first | refine vcp (by with_reducible exact c1) ?_ | refine vcn (by with_reducible exact c2) ?_)
      refine VCode.arr (tm0 := m4T n a m b mid s en) (σ0 := [.row 7 (rows (A ++ ((x.take (s - a)) ++ ((y.take (mid - s)) ++ ((x.drop (s - a)) ++ ((y.drop (mid - s)) ++ B))))))]) (.same ⟨rfl, rfl, rfl, rfl, rfl, rfl, rfl, int_eq hend, trivial⟩ ?_) (hC () trivial)
      have h0 : (y.take (mid - s)) = [] := List.eq_nil_of_length_eq_zero (by rw [ly1]; exact ar1 hen c2' qm)
      rw [h0] at hX0 ⊢
      rw [hX0]
      rfl
    ·have c1' : m <= s := dnlt c1
     repeat refine vcn c1 ?_
     refine VCode.arr (tm0 := m4T n a m b mid s en) (σ0 := [.row 7 (rows (A ++ ((x.take (s - a)) ++ ((y.take (mid - s)) ++ ((x.drop (s - a)) ++ ((y.drop (mid - s)) ++ B))))))]) (.same ⟨rfl, rfl, rfl, rfl, rfl, rfl, rfl, int_eq hend, trivial⟩ ?_) (hC () trivial)
     have h0 : (x.drop (s - a)) = [] := List.eq_nil_of_length_eq_zero (by rw [lx2]; exact Nat.sub_eq_zero_of_le c1')
     rw [h0] at hX0 ⊢
     rw [hX0]
     rfl
   ·intro _ _
    apply VCode.join (ι := Unit) (T := fun _ => m4T n a m b mid s en) (S := fun _ => [.row 7 (rows (A ++ (isortK FE.n ((x.take (s - a)) ++ (y.take (mid - s))) ++ ((x.drop (s - a)) ++ ((y.drop (mid - s)) ++ B)))))]) (I := fun _ => True)
    ·intro hC
     refine vci (fun c3 => ?_) (fun c3 => ?_)
     ·have c3' : a < s := dlt c3
      repeat refine vcp c3 ?_
      refine vci (fun c4 => ?_) (fun c4 => ?_)
      ·have c4' : s < mid := dlt c4
       repeat (change vcond _ _ _; first | refine vcp (by with_reducible exact c3) ?_ | refine vcp (by with_reducible exact c4) ?_)
       refine merge_call N ih A (x.take (s - a)) (y.take (mid - s)) ((x.drop (s - a)) ++ ((y.drop (mid - s)) ++ B)) (by rw [lx1]; exact Nat.sub_pos_of_lt c3') (by rw [ly1]; exact Nat.sub_pos_of_lt c4') hs1 ht1 hnd1 n a s mid _ rfl ha qL1 qL2 (.inl qL3) hl qL4 rfl rfl rfl ?_
       refine VCode.arr (tm0 := m4T n a m b mid s en) (σ0 := [.row 7 (rows (A ++ (isortK FE.n ((x.take (s - a)) ++ (y.take (mid - s))) ++ ((x.drop (s - a)) ++ ((y.drop (mid - s)) ++ B)))))]) (.same ⟨rfl, rfl, rfl, rfl, rfl, rfl, rfl, rfl, trivial⟩ rfl) (hC () trivial)
      ·have c4' : mid <= s := dnlt c4
       repeat (change vcond _ _ _; first | refine vcp (by with_reducible exact c3) ?_ | refine vcn (by with_reducible exact c4) ?_)
       refine VCode.arr (tm0 := m4T n a m b mid s en) (σ0 := [.row 7 (rows (A ++ (isortK FE.n ((x.take (s - a)) ++ (y.take (mid - s))) ++ ((x.drop (s - a)) ++ ((y.drop (mid - s)) ++ B)))))]) (.same ⟨rfl, rfl, rfl, rfl, rfl, rfl, rfl, rfl, trivial⟩ ?_) (hC () trivial)
       have h0 : (y.take (mid - s)) = [] := List.eq_nil_of_length_eq_zero (by rw [ly1]; exact Nat.sub_eq_zero_of_le c4')
       rw [h0, List.append_nil, isortK_eq hndx1 (List.Perm.refl _) hs1]
       rfl
     ·have c3' : s <= a := dnlt c3
      repeat refine vcn c3 ?_
      refine VCode.arr (tm0 := m4T n a m b mid s en) (σ0 := [.row 7 (rows (A ++ (isortK FE.n ((x.take (s - a)) ++ (y.take (mid - s))) ++ ((x.drop (s - a)) ++ ((y.drop (mid - s)) ++ B)))))]) (.same ⟨rfl, rfl, rfl, rfl, rfl, rfl, rfl, rfl, trivial⟩ ?_) (hC () trivial)
      have h0 : (x.take (s - a)) = [] := List.eq_nil_of_length_eq_zero (by rw [lx1]; exact Nat.sub_eq_zero_of_le c3')
      rw [h0]
      simp only [List.nil_append]
      rw [isortK_eq hndy1 (List.Perm.refl _) ht1]
    ·intro _ _
     refine vci (fun c5 => ?_) (fun c5 => ?_)
     ·have c5' : mid < en := dlt c5
      repeat refine vcp c5 ?_
      refine vci (fun c6 => ?_) (fun c6 => ?_)
      ·have c6' : en < b := dlt c6
       repeat (change vcond _ _ _; first | refine vcp (by with_reducible exact c5) ?_ | refine vcp (by with_reducible exact c6) ?_)
       refine merge_call N ih (A ++ isortK FE.n ((x.take (s - a)) ++ (y.take (mid - s)))) (x.drop (s - a)) (y.drop (mid - s)) B (by rw [lx2]; exact ar5 hen c5' qs) (by rw [ly2, <- hen]; exact Nat.sub_pos_of_lt c6') hs2 ht2 hnd2 n mid en b _ (by simp only [List.append_assoc]) qR1 qR2 qR3 (.inl qR4) hl qR5 rfl rfl rfl ?_
       refine ⟨?_, rfl⟩
       rw [hres]
       simp only [List.append_assoc]
      ·have c6' : b <= en := dnlt c6
       repeat (change vcond _ _ _; first | refine vcp (by with_reducible exact c5) ?_ | refine vcn (by with_reducible exact c6) ?_)
       refine ⟨?_, rfl⟩
       have h0 : (y.drop (mid - s)) = [] := List.eq_nil_of_length_eq_zero (by rw [ly2, <- hen]; exact Nat.sub_eq_zero_of_le c6')
       rw [hres, h0, List.append_nil, isortK_eq hndx2 (List.Perm.refl _) hs2]
       simp only [List.append_assoc, List.nil_append]
     ·have c5' : en <= mid := dnlt c5
      repeat refine vcn c5 ?_
      refine ⟨?_, rfl⟩
      have h0 : (x.drop (s - a)) = [] := List.eq_nil_of_length_eq_zero (by rw [lx2]; exact ar2 hen c5' qs)
      rw [hres, h0]
      simp only [List.nil_append]
      rw [isortK_eq hndy2 (List.Perm.refl _) ht2]
      simp only [List.append_assoc]
theorem merge_ok : ∀ N, MergeOk N := by
 intro N
 induction N with
 | zero => intro A x y B hx hy _ _ _ n a m b _ _ _ _ _ hN; omega
 | succ N ih =>
  intro A x y B hx hy sx sy hnd n a m b hn ha hm hb hl hN
  by_cases h1 : x.length = 1
  ·obtain ⟨e, x', rfl⟩ := cut_first x hx
   have : x' = [] := List.eq_nil_of_length_eq_zero (by simpa using h1)
   subst this
   exact merge1_spec A e y B sy hnd n a m b hn ha hm hb hl
  ·by_cases h2 : y.length = 1
   ·obtain ⟨e, y', rfl⟩ := cut_first y hy
    have : y' = [] := List.eq_nil_of_length_eq_zero (by simpa using h2)
    subst this
    exact merge2_spec A x e B h1 sx hnd n a m b hn ha hm hb hl
   ·exact merge3_spec N ih A x y B (by omega) (by omega) sx sy hnd n a m b hn ha hm hb hl hN
theorem merge_at (A x y B : List FE) (hx : 0 < x.length) (hy : 0 < y.length) (sx : Srt FE.n x) (sy : Srt FE.n y) (hnd : ((x ++ y).map FE.n).Nodup) (n a m b : Nat) (X : List FE) (hX : X = A ++ (x ++ (y ++ B))) (hn : n = X.length) (ha : a = A.length) (hm : m = a + x.length) (hb : b = m + y.length) (hl : n < 4294967296)
  {a' m' b' : V} (ha' : a' = intV a) (hm' : m' = intV m) (hb' : b' = intV b) {K : VCR -> VS -> Prop} (hK : K (.ret (.tup [])) [.row 7 (rows (A ++ (isortK FE.n (x ++ y) ++ B)))]) : VCall C intr0 F.slices_symMergeCmpFunc_api_Field [.ms 0 7 0 n n, a', m', b', cmpV] [.row 7 (rows X)] K := by
 subst ha' hm' hb' hX
 refine (merge_ok _ A x y B hx hy sx sy hnd n a m b hn ha hm hb hl (Nat.le_refl _)).mono (fun r σ' h => ?_)
 rw [h.1, h.2]
 exact hK
theorem ins_at (A x B : List FE) (hnd : (x.map FE.n).Nodup) (n a b : Nat) (X : List FE) (hX : X = A ++ (x ++ B)) (hn : n = X.length) (ha : a = A.length) (hb : b = A.length + x.length) (hl : n < 4294967296) {a' b' : V} (ha' : a' = intV a) (hb' : b' = intV b) {K : VCR -> VS -> Prop} (hK : K (.ret (.tup [])) [.row 7 (rows (A ++ (isortK FE.n x ++ B)))]) :
  VCall C intr0 F.slices_insertionSortCmpFunc_api_Field [.ms 0 7 0 n n, a', b', cmpV] [.row 7 (rows X)] K := by
 subst ha' hb' hX
 refine (insertion_spec0 A x B hnd n a b hn ha hb hl).mono (fun r σ' h => ?_)
 rw [h.1, h.2]
 exact hK
def Blocks (k : Nat) (L : List (List FE)) : Prop := ∀ l ∈ L, l.length = k /\ Srt FE.n l
theorem Blocks.len {k : Nat} {L : List (List FE)} (h : Blocks k L) : L.flatten.length = k * L.length := by
 induction L with
 | nil => simp
 | cons l L ih =>
  have h1 := h l (by simp)
  have h2 := ih (fun l hl => h l (by simp [hl]))
  simp only [List.flatten_cons, List.length_append, List.length_cons, h1.1, h2, Nat.mul_succ]
  omega
theorem Blocks.snoc {k : Nat} {L : List (List FE)} {l : List FE} (h : Blocks k L) (h1 : l.length = k) (h2 : Srt FE.n l) : Blocks k (L ++ [l]) := by
 intro z hz
 rcases List.mem_append.1 hz with hz | hz
 ·exact h z hz
 ·simp at hz; subst hz; exact ⟨h1, h2⟩
def stT (n k a b : Nat) : Tm := [(0, .ms 0 7 0 n n), (1, intV n), (2, cmpV), (6, intV k), (7, intV a), (8, intV b)]
theorem nodup_mid {A x B : List FE} (h : ((A ++ (x ++ B)).map FE.n).Nodup) : (x.map FE.n).Nodup := by
 rw [List.map_append, List.map_append, List.nodup_append] at h
 exact (List.nodup_append.1 h.2.1).1
set_option maxRecDepth 100000 in
set_option maxHeartbeats 16000000 in
theorem stable_spec0 (xs : List FE) (hnd : (xs.map FE.n).Nodup) (n : Nat) (hn : n = xs.length) (hl : n < 4294967296) :
  VCall C intr0 F.slices_stableCmpFunc_api_Field [.ms 0 7 0 n n, intV n, cmpV] [.row 7 (rows xs)] fun r σ' => σ' = [.row 7 (rows (isortK FE.n xs))] /\ r = .ret (.tup []) := by
 refine VCall.b0 nofz (fun _ => rfl) ?_
 refine VCode.arr (tm0 := stT n 20 (20 * ([] : List (List FE)).length) (20 * ([] : List (List FE)).length + 20)) (σ0 := [.row 7 (rows (([] : List (List FE)).flatten ++ xs))]) (.same ⟨rfl, rfl, rfl, rfl, rfl, rfl, trivial⟩ rfl) ?_
 refine VCode.iter (fun z : List (List FE) × List FE => stT n 20 (20 * z.1.length) (20 * z.1.length + 20)) (fun z => [.row 7 (rows (z.1.flatten ++ z.2))]) (fun z => z.2.length)
  (fun z => Blocks 20 z.1 /\ (z.1.flatten ++ z.2).Perm xs) ?_ ([], xs) ⟨by intro l hl; simp at hl, by simp⟩
 rintro ⟨L, T⟩ ⟨hB, hp⟩
 have hB : Blocks 20 L := hB
 have hp : (L.flatten ++ T).Perm xs := hp
 have hL := hB.len
 have hT : n = 20 * L.length + T.length := by rw [hn, <- hp.length_eq, List.length_append, hL]
 have hnp := nodup_perm (key := FE.n) hp hnd
 refine vci (fun hc => ?_) (fun hc => ?_)
 ·have hc' : 20 * L.length + 20 <= n := dle hc
  obtain ⟨x, T', rfl, hx⟩ := cut_at T 20 (by omega)
  have hndx := nodup_mid hnp
  refine ins_at L.flatten x T' hndx n (20 * L.length) (20 * L.length + 20) _ rfl (by rw [hn, <- hp.length_eq]) hL.symm (by omega) (by omega) rfl rfl ?_
  refine ⟨(L ++ [isortK FE.n x], T'), ⟨hB.snoc (by rw [isortK_len, hx]) (isortK_srt hndx), ?_⟩, by show T'.length < (x ++ T').length; rw [List.length_append]; omega, .same ⟨rfl, rfl, rfl, rfl, int_eq ?_, int_eq ?_, trivial⟩ ?_, rfl, rfl⟩
  ·show ((L ++ [isortK FE.n x]).flatten ++ T').Perm xs
   refine List.Perm.trans ?_ hp
   simp only [List.flatten_append, List.flatten_cons, List.flatten_nil, List.append_nil, List.append_assoc]
   exact List.Perm.append_left _ ((isortK_perm x).append_right _)
  ·show Int.ofNat (20 * L.length + 20) = Int.ofNat (20 * (L ++ [isortK FE.n x]).length)
   rw [List.length_append]; rfl
  ·show IntKind.i64.wrap (Int.ofNat (20 * L.length + 20) + 20) = Int.ofNat (20 * (L ++ [isortK FE.n x]).length + 20)
   rw [List.length_append]
   exact wrap_add (b := 20) (by omega)
  ·show _ = [VObj.row 7 (rows ((L ++ [isortK FE.n x]).flatten ++ T'))]
   simp only [List.flatten_append, List.flatten_cons, List.flatten_nil, List.append_nil, List.append_assoc]
 ·have hc' : n < 20 * L.length + 20 := dnle hc
  have hndT : (T.map FE.n).Nodup := by
   have : ((L.flatten ++ (T ++ [])).map FE.n).Nodup := by rw [List.append_nil]; exact hnp
   exact nodup_mid this
  refine ins_at L.flatten T [] hndT n (20 * L.length) n _ (by rw [List.append_nil]) (by rw [hn, <- hp.length_eq]) hL.symm (by omega) (by omega) rfl rfl ?_
  have hTl : (isortK FE.n T).length = T.length := isortK_len T
  have hp1 : (L.flatten ++ isortK FE.n T).Perm xs := (List.Perm.append_left _ (isortK_perm T)).trans hp
  have hsT := isortK_srt (key := FE.n) hndT
  generalize isortK FE.n T = T1 at hTl hp1 hsT
  refine VCode.arr (tm0 := [(0, .ms 0 7 0 n n), (1, intV n), (2, cmpV), (6, intV 20)]) (σ0 := [.row 7 (rows (L.flatten ++ T1))]) (.same ⟨rfl, rfl, rfl, rfl, trivial⟩ (by rw [List.append_nil])) ?_
  refine VCode.iter (fun z : Nat × List (List FE) × List FE => [(0, .ms 0 7 0 n n), (1, intV n), (2, cmpV), (6, intV z.1)]) (fun z => [.row 7 (rows (z.2.1.flatten ++ z.2.2))]) (fun z => n - z.1)
   (fun z => 0 < z.1 /\ z.1 < 8589934592 /\ Blocks z.1 z.2.1 /\ Srt FE.n z.2.2 /\ z.2.2.length < z.1 /\ (z.2.1.flatten ++ z.2.2).Perm xs) ?_ (20, L, T1) ⟨by show 0 < 20; omega, by show 20 < 8589934592; omega, hB, hsT, by show T1.length < 20; omega, hp1⟩
  clear hp hnp hndT hT hc' hc hTl hp1 hsT hL hB
  rintro ⟨k, L, T⟩ ⟨hk, hk2, hB, hsT, hTk, hp⟩
  have hk : 0 < k := hk
  have hk2 : k < 8589934592 := hk2
  have hB : Blocks k L := hB
  have hsT : Srt FE.n T := hsT
  have hTk : T.length < k := hTk
  have hp : (L.flatten ++ T).Perm xs := hp
  have hL := hB.len
  have hT : n = k * L.length + T.length := by rw [hn, <- hp.length_eq, List.length_append, hL]
  refine vci (fun hc => ?_) (fun hc => ?_)
  ·have hc' : k < n := dlt hc
   have hw2 : IntKind.i64.wrap (2 * Int.ofNat k) = Int.ofNat (2 * k) := by
    rw [show (2 : Int) * Int.ofNat k = Int.ofNat (2 * k) from rfl, wrap64 (by simp only [Int.ofNat_eq_natCast]; omega) (by simp only [Int.ofNat_eq_natCast]; omega)]
   have hb0 : IntKind.i64.wrap (2 * Int.ofNat k) = Int.ofNat (2 * k * ([] : List (List FE)).length + 2 * k) := by
    rw [hw2]; simp
   refine VCode.arr (tm0 := stT n k (2 * k * ([] : List (List FE)).length) (2 * k * ([] : List (List FE)).length + 2 * k)) (σ0 := [.row 7 (rows (([] : List (List FE)).flatten ++ (L.flatten ++ T)))]) (.same ⟨rfl, rfl, rfl, rfl, rfl, int_eq hb0, trivial⟩ rfl) ?_
   refine VCode.iter (fun z : List (List FE) × List (List FE) => stT n k (2 * k * z.1.length) (2 * k * z.1.length + 2 * k)) (fun z => [.row 7 (rows (z.1.flatten ++ (z.2.flatten ++ T)))]) (fun z => z.2.length)
    (fun z => Blocks (2 * k) z.1 /\ Blocks k z.2 /\ (z.1.flatten ++ (z.2.flatten ++ T)).Perm xs) ?_ ([], L) ⟨by intro l hl; simp at hl, hB, by simpa using hp⟩
   rintro ⟨L1, L2⟩ ⟨hB1, hB2, hp⟩
   have hB1 : Blocks (2 * k) L1 := hB1
   have hB2 : Blocks k L2 := hB2
   have hp : (L1.flatten ++ (L2.flatten ++ T)).Perm xs := hp
   have hL1 := hB1.len
   have hL2 := hB2.len
   obtain ⟨a, ha⟩ : ∃ a, 2 * k * L1.length = a := ⟨_, rfl⟩
   have hnp := nodup_perm (key := FE.n) hp hnd
   have hnl : n = (L1.flatten ++ (L2.flatten ++ T)).length := by rw [hn, <- hp.length_eq]
   have hT : n = a + (k * L2.length + T.length) := by rw [hnl, List.length_append, List.length_append, hL1, hL2, ha]
   have hla : a = L1.flatten.length := by rw [hL1, ha]
   dsimp only
   rw [ha]
   refine vci (fun hd => ?_) (fun hd => ?_)
   ·have hd' : a + 2 * k <= n := dle hd
    cases L2 with
    | nil => simp only [List.length_nil, Nat.mul_zero] at hT; omega
    | cons x L2 =>
     cases L2 with
     | nil => simp only [List.length_cons, List.length_nil, Nat.mul_succ, Nat.mul_zero] at hT; omega
     | cons y L2 =>
      have hx := hB2 x (by simp)
      have hy := hB2 y (by simp)
      have hX : L1.flatten ++ ((x :: y :: L2).flatten ++ T) = L1.flatten ++ (x ++ (y ++ (L2.flatten ++ T))) := by simp only [List.flatten_cons, List.append_assoc]
      have hndx : ((x ++ y).map FE.n).Nodup := by
       refine nodup_mid (A := L1.flatten) (B := L2.flatten ++ T) ?_
       rw [List.append_assoc, <- hX]; exact hnp
      have hwm : IntKind.i64.wrap (Int.ofNat a + Int.ofNat k) = Int.ofNat (a + k) := wrap_add (by omega)
      refine merge_at L1.flatten x y (L2.flatten ++ T) (by omega) (by omega) hx.2 hy.2 hndx n a (a + k) (a + 2 * k) _ hX hnl hla (by omega) (by omega) (by omega) rfl (vi hwm) rfl ?_
      have hml : (isortK FE.n (x ++ y)).length = 2 * k := by rw [isortK_len, List.length_append]; omega
      have e1 : 2 * k * (L1 ++ [isortK FE.n (x ++ y)]).length = a + 2 * k := by
       rw [List.length_append, List.length_singleton, Nat.mul_add, ha, Nat.mul_one]
      refine ⟨(L1 ++ [isortK FE.n (x ++ y)], L2), ⟨hB1.snoc hml (isortK_srt hndx), fun l hl => hB2 l (by simp [hl]), ?_⟩, by show L2.length < L2.length + 1 + 1; omega, .same ⟨rfl, rfl, rfl, rfl, int_eq ?_, int_eq ?_, trivial⟩ ?_, rfl, rfl⟩
      ·show ((L1 ++ [isortK FE.n (x ++ y)]).flatten ++ (L2.flatten ++ T)).Perm xs
       refine List.Perm.trans ?_ hp
       rw [hX]
       simp only [List.flatten_append, List.flatten_cons, List.flatten_nil, List.append_nil, List.append_assoc]
       rw [<- List.append_assoc x]
       exact List.Perm.append_left _ ((isortK_perm (x ++ y)).append_right _)
      ·show Int.ofNat (a + 2 * k) = Int.ofNat (2 * k * (L1 ++ [isortK FE.n (x ++ y)]).length)
       rw [e1]
      ·show IntKind.i64.wrap (Int.ofNat (a + 2 * k) + IntKind.i64.wrap (2 * Int.ofNat k)) = Int.ofNat (2 * k * (L1 ++ [isortK FE.n (x ++ y)]).length + 2 * k)
       rw [e1, hw2]
       exact wrap_add (by omega)
      ·show _ = [VObj.row 7 (rows ((L1 ++ [isortK FE.n (x ++ y)]).flatten ++ (L2.flatten ++ T)))]
       simp only [List.flatten_append, List.flatten_cons, List.flatten_nil, List.append_nil, List.append_assoc]
   ·have hd' : n < a + 2 * k := dnle hd
    have hwk : IntKind.i64.wrap (Int.ofNat k * 2) = Int.ofNat (k * 2) := by
     rw [show Int.ofNat k * (2 : Int) = Int.ofNat (k * 2) from rfl, wrap64 (by simp only [Int.ofNat_eq_natCast]; omega) (by simp only [Int.ofNat_eq_natCast]; omega)]
    have hwm : IntKind.i64.wrap (Int.ofNat a + Int.ofNat k) = Int.ofNat (a + k) := wrap_add (by omega)
    cases L2 with
    | nil =>
     simp only [List.length_nil, Nat.mul_zero, Nat.zero_add] at hT
     have hlt : ¬ (a + k < n) := by omega
     refine vcn (by rw [hwm]; exact decide_eq_false (fun h => hlt (Int.ofNat_lt.1 h))) ?_
     refine ⟨(k * 2, L1, T), ⟨by show 0 < k * 2; omega, by show k * 2 < 8589934592; omega, by rw [Nat.mul_comm]; exact hB1, hsT, by show T.length < k * 2; omega, hp⟩, by show n - k * 2 < n - k; omega, .same ⟨rfl, rfl, rfl, int_eq hwk, trivial⟩ rfl, rfl, rfl⟩
    | cons x L2 =>
     cases L2 with
     | cons y L2 => simp only [List.length_cons, Nat.mul_succ] at hT; omega
     | nil =>
      have hx := hB2 x (by simp)
      simp only [List.length_cons, List.length_nil, Nat.mul_succ, Nat.mul_zero, Nat.zero_add] at hT
      have hX : L1.flatten ++ ([x].flatten ++ T) = L1.flatten ++ (x ++ (T ++ [])) := by simp
      by_cases hT0 : 0 < T.length
      ·have hlt : a + k < n := by omega
       refine vcp (by rw [hwm]; exact decide_eq_true (Int.ofNat_lt.2 hlt)) ?_
       have hndx : ((x ++ T).map FE.n).Nodup := by
        refine nodup_mid (A := L1.flatten) (B := []) ?_
        rw [List.append_assoc, <- hX]; exact hnp
       refine merge_at L1.flatten x T [] (by omega) hT0 hx.2 hsT hndx n a (a + k) n _ hX hnl hla (by omega) (by omega) (by omega) rfl (vi hwm) rfl ?_
       have hml : (isortK FE.n (x ++ T)).length = k + T.length := by rw [isortK_len, List.length_append]; omega
       refine ⟨(k * 2, L1, isortK FE.n (x ++ T)), ⟨by show 0 < k * 2; omega, by show k * 2 < 8589934592; omega, by rw [Nat.mul_comm]; exact hB1, isortK_srt hndx, by show (isortK FE.n (x ++ T)).length < k * 2; omega, ?_⟩, by show n - k * 2 < n - k; omega, .same ⟨rfl, rfl, rfl, int_eq hwk, trivial⟩ (by rw [List.append_nil]), rfl, rfl⟩
       show (L1.flatten ++ isortK FE.n (x ++ T)).Perm xs
       refine List.Perm.trans ?_ hp
       rw [hX, List.append_nil]
       exact List.Perm.append_left _ (isortK_perm (x ++ T))
      ·have hT1 : T = [] := List.eq_nil_of_length_eq_zero (by omega)
       have hlt : ¬ (a + k < n) := by rw [hT1] at hT; simp only [List.length_nil] at hT; omega
       refine vcn (by rw [hwm]; exact decide_eq_false (fun h => hlt (Int.ofNat_lt.1 h))) ?_
       refine ⟨(k * 2, L1, x), ⟨by show 0 < k * 2; omega, by show k * 2 < 8589934592; omega, by rw [Nat.mul_comm]; exact hB1, hx.2, by show x.length < k * 2; omega, ?_⟩, by show n - k * 2 < n - k; omega, .same ⟨rfl, rfl, rfl, int_eq hwk, trivial⟩ (by rw [hX, hT1, List.append_nil, List.append_nil]), rfl, rfl⟩
       show (L1.flatten ++ x).Perm xs
       rw [hX, hT1, List.append_nil, List.append_nil] at hp
       exact hp
  ·have hc' : n <= k := dnlt hc
   refine ⟨?_, rfl⟩
   have hz : Srt FE.n (L.flatten ++ T) := by
    cases L with
    | nil => simpa using hsT
    | cons l L =>
     have h1 := hB l (by simp)
     simp only [List.length_cons, Nat.mul_succ] at hT
     have hT0 : T = [] := List.eq_nil_of_length_eq_zero (by omega)
     have hL0 : L = [] := by
      cases L with
      | nil => rfl
      | cons l2 L => simp only [List.length_cons, Nat.mul_succ] at hT; omega
     subst hT0 hL0
     simpa using h1.2
   rw [isortK_uniq hnd hp hz]
theorem stable_spec (xs : List FE) (hnd : (xs.map FE.n).Nodup) (n : Nat) (hn : n = xs.length) (hl : n < 4294967296) :
  VCall C intr0 F.slices_SortStableFunc_api_Field [.ms 0 7 0 n n, cmpV] [.row 7 (rows xs)] fun r σ' => σ' = [.row 7 (rows (isortK FE.n xs))] /\ r = .ret (.tup []) := by
 refine VCall.b0 nofz (fun _ => rfl) ?_
 refine (stable_spec0 xs hnd n hn hl).mono (fun r σ' h => ?_)
 rw [h.1, h.2]
 exact ⟨rfl, rfl⟩
theorem sorted_spec (xs : List FE) (hn : (xs.map FE.n).Nodup) (hl : xs.length < 4294967296) (n : Nat) (hx : n = xs.length) (i : Nat) {σ : VS} {K : VCR -> VS -> Prop} (hσ : nth σ i = some (.row 7 (rows xs)))
  (hk : K (.ret (.ms i 7 0 n n)) (σ.set i (.row 7 (rows (isortK FE.n xs))))) : VCall C intr0 F.parser_sorted [.ms i 7 0 n n] σ K := by
 refine VCall.b0 nofz (fun _ => rfl) ?_
 refine VCall.oneR (args0 := [.ms 0 7 0 n n, cmpV]) (P := fun r els => els = rows (isortK FE.n xs) /\ r = .ret (.tup [])) ((stable_spec xs hn n hx (by omega)).mono fun r σ' h => ?_) i hσ (rows_closed xs) rfl rfl (fun r els h => ?_)
 ·obtain ⟨rfl, rfl⟩ := h
  exact ⟨_, rfl, rfl, rows_closed _, rfl, rfl⟩
 ·obtain ⟨rfl, rfl⟩ := h
  exact hk
theorem sorted_nil {σ : VS} {K : VCR -> VS -> Prop} (hk : K (.ret (.d .nils)) σ) : VCall C intr0 F.parser_sorted [.d .nils] σ K := by
 refine VCall.b0 nofz (fun _ => rfl) ?_
 refine VCall.b0 nofz (fun _ => rfl) ?_
 refine VCall.b0 nofz (fun _ => rfl) ?_
 refine VCode.loop ?_
 refine VCall.b0 nofz (fun _ => rfl) ?_
 refine VCode.loop ?_
 refine VCode.loop ?_
 exact hk
end Go.Proofs.YthfehkcfhiilfaaGreatDoor
