/- Sorting in place: exchanging, inserting. -/
import Derived.Test.YthfehkcfhiilfaaGreatDoorKAmD
import Derived.Test.YthfehkcfhiilfaaGreatDoorKRa
namespace Go.VM set_option linter.unusedSimpArgs false set_option linter.unusedVariables false
open Go.AM
theorem blt_cons {a b : UInt8} {x y : List UInt8} : bytesLt (a :: x) (b :: y) = true ↔ a.toNat < b.toNat ∨ (a = b /\ bytesLt x y = true) := by
 simp only [bytesLt]
 rcases Nat.lt_trichotomy a.toNat b.toNat with h | h | h
 ·have : Nat.blt a.toNat b.toNat = true := by simpa [Nat.blt_eq] using h
  simp only [this, true_iff]; exact .inl h
 ·have e : a = b := UInt8.toNat_inj.1 h
  subst e
  have : Nat.blt a.toNat a.toNat = false := by rw [Bool.eq_false_iff]; intro h; rw [Nat.blt_eq] at h; omega
  simp only [this, Nat.beq_refl, Nat.lt_irrefl, false_or, true_and]
 ·have h1 : Nat.blt a.toNat b.toNat = false := by rw [Bool.eq_false_iff]; intro h; rw [Nat.blt_eq] at h; omega
  have h2 : Nat.beq a.toNat b.toNat = false := by rw [Bool.eq_false_iff]; intro h; rw [Nat.beq_eq] at h; omega
  simp only [h1, h2]
  constructor
  ·intro h; cases h
  ·rintro (h' | ⟨rfl, _⟩)
   ·omega
   ·omega
theorem blt_ir : ∀ a : List UInt8, bytesLt a a = false := by
 intro a
 induction a with
 | nil => rfl
 | cons c a ih =>
  rw [Bool.eq_false_iff]
  intro h
  rcases blt_cons.1 h with h | ⟨_, h⟩
  ·omega
  ·rw [ih] at h; cases h
theorem blt_tr : ∀ a b c : List UInt8, bytesLt a b = true -> bytesLt b c = true -> bytesLt a c = true := by
 intro a
 induction a with
 | nil =>
  intro b c h1 h2
  cases c with
  | nil => cases b <;> cases h2
  | cons c z => rfl
 | cons x a ih =>
  intro b c h1 h2
  cases b with
  | nil => cases h1
  | cons y b =>
   cases c with
   | nil => cases h2
   | cons z c =>
    rw [blt_cons] at h1 h2 ⊢
    rcases h1 with h1 | ⟨rfl, h1⟩ <;> rcases h2 with h2 | ⟨rfl, h2⟩
    ·exact .inl (by omega)
    ·exact .inl h1
    ·exact .inl h2
    ·exact .inr ⟨rfl, ih _ _ h1 h2⟩
theorem blt_tot : ∀ a b : List UInt8, bytesLt a b = false -> a ≠ b -> bytesLt b a = true := by
 intro a
 induction a with
 | nil =>
  intro b h1 h2
  cases b with
  | nil => exact absurd rfl h2
  | cons y b => cases h1
 | cons x a ih =>
  intro b h1 h2
  cases b with
  | nil => rfl
  | cons y b =>
   rw [blt_cons]
   have h1' : ¬ (x.toNat < y.toNat ∨ (x = y /\ bytesLt a b = true)) := fun h => by rw [blt_cons.2 h] at h1; cases h1
   by_cases e : x = y
   ·subst e
    refine .inr ⟨rfl, ih b ?_ (fun e => h2 (by rw [e]))⟩
    cases hb : bytesLt a b with
    | false => rfl
    | true => exact absurd (.inr ⟨rfl, hb⟩) h1'
   ·have : x.toNat ≠ y.toNat := fun h => e (UInt8.toNat_inj.1 h)
    exact .inl (by omega)
section
variable {α : Type} {key : α -> List UInt8}
def Srt (key : α -> List UInt8) (l : List α) : Prop := l.Pairwise fun a b => bytesLt (key a) (key b) = true
theorem Srt.uniq : ∀ {l1 l2 : List α}, l1.Perm l2 -> Srt key l1 -> Srt key l2 -> l1 = l2 := by
 intro l1
 induction l1 with
 | nil => intro l2 h _ _; exact h.nil_eq
 | cons a r ih =>
  intro l2 h s1 s2
  cases l2 with
  | nil => exact absurd h.symm.nil_eq (by simp)
  | cons b r2 =>
   have s1' := List.pairwise_cons.1 s1
   have s2' := List.pairwise_cons.1 s2
   have e : a = b := by
    have m1 : a ∈ b :: r2 := h.subset (by simp)
    have m2 : b ∈ a :: r := h.symm.subset (by simp)
    rcases List.mem_cons.1 m1 with e | m1
    ·exact e
    ·rcases List.mem_cons.1 m2 with e | m2
     ·exact e.symm
     ·have h1 := blt_tr _ _ _ (s1'.1 b m2) (s2'.1 a m1)
      rw [blt_ir] at h1; cases h1
   subst e
   rw [ih h.cons_inv s1'.2 s2'.2]
def insK (key : α -> List UInt8) (e : α) : List α -> List α
 | [] => [e]
 | x :: r => if bytesLt (key x) (key e) then x :: insK key e r else e :: x :: r
def isortK (key : α -> List UInt8) (l : List α) : List α := l.foldl (fun acc e => insK key e acc) []
theorem insK_perm (e : α) : ∀ l : List α, (insK key e l).Perm (e :: l) := by
 intro l
 induction l with
 | nil => exact .refl _
 | cons x r ih =>
  simp only [insK]
  split
  ·exact (ih.cons x).trans (.swap e x r)
  ·exact .refl _
theorem insK_srt {e : α} : ∀ {l : List α}, Srt key l -> (∀ x ∈ l, key x ≠ key e) -> Srt key (insK key e l) := by
 intro l
 induction l with
 | nil => intro _ _; exact List.pairwise_singleton _ _
 | cons x r ih =>
  intro h hd
  have h' := List.pairwise_cons.1 h
  simp only [insK]
  split
  ·rename_i hx
   refine List.pairwise_cons.2 ⟨fun y hy => ?_, ih h'.2 (fun y hy => hd y (by simp [hy]))⟩
   rcases List.mem_cons.1 ((insK_perm e r).subset hy) with rfl | hy
   ·exact hx
   ·exact h'.1 y hy
  ·rename_i hx
   have hex : bytesLt (key e) (key x) = true := blt_tot _ _ (by simpa using hx) (hd x (by simp))
   refine List.pairwise_cons.2 ⟨fun y hy => ?_, h⟩
   rcases List.mem_cons.1 hy with rfl | hy
   ·exact hex
   ·exact blt_tr _ _ _ hex (h'.1 y hy)
theorem isortK_snoc (l : List α) (e : α) : isortK key (l ++ [e]) = insK key e (isortK key l) := by
 simp [isortK, List.foldl_append]
theorem foldIns_perm : ∀ (l acc : List α), (l.foldl (fun acc e => insK key e acc) acc).Perm (acc ++ l) := by
 intro l
 induction l with
 | nil => intro acc; simp
 | cons e l ih =>
  intro acc
  refine (ih _).trans ?_
  refine ((insK_perm e acc).append_right l).trans ?_
  exact (List.perm_middle (l₁ := acc) (l₂ := l) (a := e)).symm
theorem foldIns_srt : ∀ (l acc : List α), Srt key acc -> ((acc ++ l).map key).Nodup -> Srt key (l.foldl (fun acc e => insK key e acc) acc) := by
 intro l
 induction l with
 | nil => intro acc h _; exact h
 | cons e l ih =>
  intro acc h hn
  refine ih _ (insK_srt h fun x hx he => ?_) ?_
  ·rw [List.map_append, List.nodup_append] at hn
   exact hn.2.2 (key x) (List.mem_map.2 ⟨x, hx, rfl⟩) (key e) (by simp) he
  ·have hp : (acc ++ e :: l).Perm (insK key e acc ++ l) := (List.perm_middle (l₁ := acc) (l₂ := l) (a := e)).trans ((insK_perm e acc).symm.append_right l)
   exact (hp.map key).nodup_iff.1 hn
theorem isortK_perm (l : List α) : (isortK key l).Perm l := foldIns_perm (key := key) l []
theorem isortK_srt {l : List α} (h : (l.map key).Nodup) : Srt key (isortK key l) := foldIns_srt l [] List.Pairwise.nil (by simpa using h)
theorem isortK_uniq {l z : List α} (h : (l.map key).Nodup) (hp : z.Perm l) (hs : Srt key z) : z = isortK key l :=
 Srt.uniq (hp.trans (isortK_perm l).symm) hs (isortK_srt h)
theorem Srt.lt_of_lt {l : List α} (h : Srt key l) {i j : Nat} {a b : α} (ha : l[i]? = some a) (hb : l[j]? = some b) (hij : i < j) : bytesLt (key a) (key b) = true := by
 obtain ⟨h1, rfl⟩ := List.getElem?_eq_some_iff.1 ha
 obtain ⟨h2, rfl⟩ := List.getElem?_eq_some_iff.1 hb
 exact (List.pairwise_iff_getElem.1 h) i j h1 h2 hij
theorem Srt.le_of_le {l : List α} (h : Srt key l) {i j : Nat} {a b : α} (ha : l[i]? = some a) (hb : l[j]? = some b) (hij : i <= j) : a = b ∨ bytesLt (key a) (key b) = true := by
 rcases Nat.lt_or_ge i j with h1 | h1
 ·exact .inr (h.lt_of_lt ha hb h1)
 ·obtain rfl : i = j := by omega
  rw [ha] at hb; cases hb; exact .inl rfl
theorem blt_chain {a b c d : α} (h1 : a = b ∨ bytesLt (key a) (key b) = true) (h2 : bytesLt (key b) (key c) = true) (h3 : c = d ∨ bytesLt (key c) (key d) = true) : bytesLt (key a) (key d) = true := by
 have h4 : bytesLt (key b) (key d) = true := by
  rcases h3 with rfl | h3
  ·exact h2
  ·exact blt_tr _ _ _ h2 h3
 rcases h1 with rfl | h1
 ·exact h4
 ·exact blt_tr _ _ _ h1 h4
theorem cut_lt {x y : List α} (sx : Srt key x) (sy : Srt key y) (s t : Nat) (hs : s <= x.length) (ht : t <= y.length)
  (h1 : ∀ a b, 0 < s -> x[s - 1]? = some a -> y[t]? = some b -> bytesLt (key a) (key b) = true)
  (h2 : ∀ a b, 0 < t -> y[t - 1]? = some a -> x[s]? = some b -> bytesLt (key a) (key b) = true) :
  ∀ a ∈ x.take s ++ y.take t, ∀ b ∈ x.drop s ++ y.drop t, bytesLt (key a) (key b) = true := by
 intro a ha b hb
 have get_take : ∀ {l : List α} {n : Nat} {a : α}, a ∈ l.take n -> ∃ i, i < n /\ l[i]? = some a := by
  intro l n a h
  obtain ⟨i, hi⟩ := List.getElem?_of_mem h
  rw [List.getElem?_take] at hi
  split at hi
  ·exact ⟨i, by assumption, hi⟩
  ·cases hi
 have get_drop : ∀ {l : List α} {n : Nat} {a : α}, a ∈ l.drop n -> ∃ i, n <= i /\ l[i]? = some a := by
  intro l n a h
  obtain ⟨i, hi⟩ := List.getElem?_of_mem h
  rw [List.getElem?_drop] at hi
  exact ⟨n + i, by omega, hi⟩
 rcases List.mem_append.1 ha with ha | ha <;> rcases List.mem_append.1 hb with hb | hb <;> obtain ⟨i, hi, ha⟩ := get_take ha <;> obtain ⟨j, hj, hb⟩ := get_drop hb
 ·exact sx.lt_of_lt ha hb (by omega)
 ·have l1 : s - 1 < x.length := by omega
  have l2 : t < y.length := by
   have := (List.getElem?_eq_some_iff.1 hb).1; omega
  exact blt_chain (sx.le_of_le ha (List.getElem?_eq_getElem l1) (by omega)) (h1 _ _ (by omega) (List.getElem?_eq_getElem l1) (List.getElem?_eq_getElem l2)) (sy.le_of_le (List.getElem?_eq_getElem l2) hb hj)
 ·have l1 : t - 1 < y.length := by omega
  have l2 : s < x.length := by
   have := (List.getElem?_eq_some_iff.1 hb).1; omega
  exact blt_chain (sy.le_of_le ha (List.getElem?_eq_getElem l1) (by omega)) (h2 _ _ (by omega) (List.getElem?_eq_getElem l1) (List.getElem?_eq_getElem l2)) (sx.le_of_le (List.getElem?_eq_getElem l2) hb hj)
 ·exact sy.lt_of_lt ha hb (by omega)
theorem Srt.take {l : List α} (h : Srt key l) (n : Nat) : Srt key (l.take n) := List.Pairwise.sublist (List.take_sublist n l) h
theorem Srt.drop {l : List α} (h : Srt key l) (n : Nat) : Srt key (l.drop n) := List.Pairwise.sublist (List.drop_sublist n l) h
theorem Srt.glue {z1 z2 w1 w2 : List α} (h1 : Srt key z1) (h2 : Srt key z2) (p1 : z1.Perm w1) (p2 : z2.Perm w2) (h : ∀ a ∈ w1, ∀ b ∈ w2, bytesLt (key a) (key b) = true) : Srt key (z1 ++ z2) :=
 List.pairwise_append.2 ⟨h1, h2, fun a ha b hb => h a (p1.subset ha) b (p2.subset hb)⟩
theorem cut_perm (x y : List α) (s t : Nat) : ((x.take s ++ y.take t) ++ (x.drop s ++ y.drop t)).Perm (x ++ y) := by
 have e : x ++ y = x.take s ++ (x.drop s ++ (y.take t ++ y.drop t)) := by rw [List.take_append_drop, <- List.append_assoc, List.take_append_drop]
 rw [e, List.append_assoc]
 refine List.Perm.append_left _ ?_
 rw [<- List.append_assoc, <- List.append_assoc]
 exact List.Perm.append_right _ List.perm_append_comm
end
end Go.VM
namespace Go.Proofs.YthfehkcfhiilfaaGreatDoor set_option linter.unusedSimpArgs false set_option linter.unusedVariables false
open Go.AM Go.VM
abbrev Fld := List UInt8 × Ty × Bool
structure FE where
 n : List UInt8
 k : Nat
 m : List UInt8
 nm : List UInt8
 a : D
 f : D
 o : Bool
def FE.ty (x : FE) : List D := [.int .i64 (Int.ofNat x.k), .str x.m, .str x.nm, x.a, x.f]
def fe (x : FE) : List D := [.str x.n, .int .i64 (Int.ofNat x.k), .str x.m, .str x.nm, x.a, x.f, .bool x.o]
def rows (xs : List FE) : List (List V) := (xs.map fe).map fun d => d.map V.d
def fw (x : FE) : V := .agg [.d (.str x.n), .d (.int .i64 (Int.ofNat x.k)), .d (.str x.m), .d (.str x.nm), .d x.a, .d x.f, .d (.bool x.o)]
inductive FlsX : List Fld -> List FE -> Prop
 | nil : FlsX [] []
 | cons {t : Ty} {x : FE} {l : List Fld} {xs : List FE} (h : TyD t x.ty) (hl : FlsX l xs) : FlsX ((x.n, t, x.o) :: l) (x :: xs)
theorem FlsX.snoc {l : List Fld} {xs : List FE} {t : Ty} {x : FE} (h : FlsX l xs) (ht : TyD t x.ty) : FlsX (l ++ [(x.n, t, x.o)]) (xs ++ [x]) := by
 induction l generalizing xs with
 | nil => cases h; exact .cons ht .nil
 | cons a l ih => cases h with | cons h1 h2 => exact .cons h1 (ih h2)
theorem FlsX.fls {l : List Fld} {xs : List FE} (h : FlsX l xs) : FlsL l (xs.map fe) := by
 induction l generalizing xs with
 | nil => cases h; exact .nil
 | cons a l ih => cases h with | cons h1 h2 => exact .cons h1 (ih h2)
theorem FlsX.names {l : List Fld} {xs : List FE} (h : FlsX l xs) : xs.map FE.n = l.map (·.1) := by
 induction l generalizing xs with
 | nil => cases h; rfl
 | cons a l ih => cases h with | cons h1 h2 => simp only [List.map_cons, ih h2]
theorem FlsX.len {l : List Fld} {xs : List FE} (h : FlsX l xs) : xs.length = l.length := by
 have := congrArg List.length h.names
 simpa using this
theorem FlsX.ins {l : List Fld} {xs : List FE} {t : Ty} {x : FE} (h : FlsX l xs) (ht : TyD t x.ty) : FlsX (insK (·.1) (x.n, t, x.o) l) (insK FE.n x xs) := by
 induction l generalizing xs with
 | nil => cases h; exact .cons ht .nil
 | cons a l ih =>
  cases h with
  | cons h1 h2 =>
   simp only [insK]
   split
   ·exact .cons h1 (ih h2)
   ·exact .cons ht (.cons h1 h2)
theorem FlsX.sort {l : List Fld} {xs : List FE} (h : FlsX l xs) : FlsX (isortK (·.1) l) (isortK FE.n xs) := by
 have : ∀ {l : List Fld} {xs : List FE} {a : List Fld} {ys : List FE}, FlsX l xs -> FlsX a ys -> FlsX (l.foldl (fun acc e => insK (·.1) e acc) a) (xs.foldl (fun acc e => insK FE.n e acc) ys) := by
  intro l
  induction l with
  | nil => intro xs a ys h ha; cases h; exact ha
  | cons b l ih =>
   intro xs a ys h ha
   cases h with
   | cons h1 h2 => have k := ih h2 (ha.ins h1); exact k
 exact this h .nil
end Go.Proofs.YthfehkcfhiilfaaGreatDoor
namespace Go.VM set_option linter.unusedSimpArgs false set_option linter.unusedVariables false
open Go.AM
section
variable {α : Type} {key : α -> List UInt8}
theorem swap_at (A M B : List α) (x y : α) (i j : Nat) (hi : i = A.length) (hj : j = A.length + 1 + M.length) : ((A ++ x :: (M ++ y :: B)).set i y).set j x = A ++ y :: (M ++ x :: B) := by
 subst hi; subst hj
 rw [List.set_append_right _ _ (Nat.le_refl _), Nat.sub_self, List.set_cons_zero, List.set_append_right _ _ (by omega)]
 rw [show A.length + 1 + M.length - A.length = M.length + 1 from by omega, List.set_cons_succ, List.set_append_right _ _ (Nat.le_refl _), Nat.sub_self, List.set_cons_zero]
theorem swap_at' (A M B : List α) (x y : α) (i j : Nat) (hi : i = A.length) (hj : j = A.length + 1 + M.length) : ((A ++ x :: (M ++ y :: B)).set j x).set i y = A ++ y :: (M ++ x :: B) := by
 rw [List.set_comm _ _ (by omega), swap_at A M B x y i j hi hj]
theorem get_mid (A B : List α) (x : α) (i : Nat) (hi : i = A.length) : (A ++ x :: B)[i]? = some x := by
 subst hi
 rw [List.getElem?_append_right (Nat.le_refl _), Nat.sub_self, List.getElem?_cons_zero]
theorem get_mid2 (A M B : List α) (x y : α) (j : Nat) (hj : j = A.length + 1 + M.length) : (A ++ x :: (M ++ y :: B))[j]? = some y := by
 have := get_mid (A ++ x :: M) B y j (by simp; omega)
 simpa using this
theorem cut_at (l : List α) (n : Nat) (h : n <= l.length) : ∃ a b, l = a ++ b /\ a.length = n :=
 ⟨l.take n, l.drop n, (List.take_append_drop n l).symm, by simp [h]⟩
theorem cut_last (l : List α) (h : 0 < l.length) : ∃ a x, l = a ++ [x] := by
 rcases List.eq_nil_or_concat l with e | ⟨a, x, e⟩
 ·subst e; simp at h
 ·exact ⟨a, x, by simpa using e⟩
theorem cut_first (l : List α) (h : 0 < l.length) : ∃ x a, l = x :: a := by
 cases l with
 | nil => simp at h
 | cons x a => exact ⟨x, a, rfl⟩
theorem ins_done {S1 S2 : List α} {e : α} (h : Srt key (S1 ++ S2)) (h1 : ∀ x ∈ S1, bytesLt (key x) (key e) = true) (h2 : ∀ x ∈ S2, bytesLt (key e) (key x) = true) : Srt key (S1 ++ e :: S2) := by
 unfold Srt at h ⊢
 rw [List.pairwise_append] at h ⊢
 refine ⟨h.1, List.pairwise_cons.2 ⟨h2, h.2.1⟩, fun a ha b hb => ?_⟩
 rcases List.mem_cons.1 hb with rfl | hb
 ·exact h1 a ha
 ·exact h.2.2 a ha b hb
theorem srt_last {S : List α} {x e : α} (h : Srt key (S ++ [x])) (hx : bytesLt (key x) (key e) = true) : ∀ y ∈ S ++ [x], bytesLt (key y) (key e) = true := by
 intro y hy
 unfold Srt at h
 rw [List.pairwise_append] at h
 rcases List.mem_append.1 hy with hy | hy
 ·exact blt_tr _ _ _ (h.2.2 y hy x (by simp)) hx
 ·simp at hy; subst hy; exact hx
theorem srt_first {S : List α} {x e : α} (h : Srt key (x :: S)) (hx : bytesLt (key e) (key x) = true) : ∀ y ∈ x :: S, bytesLt (key e) (key y) = true := by
 intro y hy
 have h := List.pairwise_cons.1 h
 rcases List.mem_cons.1 hy with rfl | hy
 ·exact hx
 ·exact blt_tr _ _ _ hx (h.1 y hy)
theorem perm_mid (S1 S2 : List α) (e : α) : (S1 ++ e :: S2).Perm ((S1 ++ S2) ++ [e]) :=
 List.perm_middle.trans (List.perm_append_singleton e (S1 ++ S2)).symm
theorem isortK_one (e : α) : isortK key [e] = [e] := rfl
theorem isortK_nil : isortK key ([] : List α) = [] := rfl
theorem isortK_len (l : List α) : (isortK key l).length = l.length := (isortK_perm l).length_eq
theorem isortK_eq {l z : List α} (hn : (l.map key).Nodup) (hp : z.Perm l) (hs : Srt key z) : isortK key l = z := (isortK_uniq hn hp hs).symm
theorem nodup_perm {l z : List α} (hp : z.Perm l) (h : (l.map key).Nodup) : (z.map key).Nodup := ((hp.map key).nodup_iff).2 h
theorem blt_of_not {a b : α} (h : bytesLt (key a) (key b) = false) (hne : key a ≠ key b) : bytesLt (key b) (key a) = true := blt_tot _ _ h hne
theorem nodup_ne {A M B : List α} {x y : α} (h : ((A ++ x :: (M ++ y :: B)).map key).Nodup) : key x ≠ key y := by
 intro e
 rw [List.map_append, List.nodup_append] at h
 have h2 := h.2.1
 rw [List.map_cons, List.nodup_cons] at h2
 exact h2.1 (by rw [e]; exact List.mem_map_of_mem (by simp))
theorem take_lt {y : List α} {e : α} (h : Srt key y) (i : Nat) (hi : i <= y.length) (h1 : ∀ x, 0 < i -> y[i - 1]? = some x -> bytesLt (key x) (key e) = true) : ∀ z ∈ y.take i, bytesLt (key z) (key e) = true := by
 intro z hz
 obtain ⟨k, hk⟩ := List.getElem?_of_mem hz
 rw [List.getElem?_take] at hk
 split at hk
 ·rename_i hki
  have l1 : i - 1 < y.length := by omega
  have h2 := h1 _ (by omega) (List.getElem?_eq_getElem l1)
  rcases h.le_of_le hk (List.getElem?_eq_getElem l1) (by omega) with rfl | h3
  ·exact h2
  ·exact blt_tr _ _ _ h3 h2
 ·cases hk
theorem drop_gt {y : List α} {e : α} (h : Srt key y) (i : Nat) (h1 : ∀ x, y[i]? = some x -> bytesLt (key e) (key x) = true) : ∀ z ∈ y.drop i, bytesLt (key e) (key z) = true := by
 intro z hz
 obtain ⟨k, hk⟩ := List.getElem?_of_mem hz
 rw [List.getElem?_drop] at hk
 have hlt := (List.getElem?_eq_some_iff.1 hk).1
 have l1 : i < y.length := by omega
 have h2 := h1 _ (List.getElem?_eq_getElem l1)
 rcases h.le_of_le (List.getElem?_eq_getElem l1) hk (by omega) with h3 | h3
 ·rw [<- h3]; exact h2
 ·exact blt_tr _ _ _ h2 h3
theorem isort_ins {l S1 S2 : List α} {e : α} (hp : (S1 ++ e :: S2).Perm l) (hn : (l.map key).Nodup) (h : Srt key (S1 ++ S2)) (h1 : ∀ x ∈ S1, bytesLt (key x) (key e) = true) (h2 : ∀ x ∈ S2, bytesLt (key e) (key x) = true) : isortK key l = S1 ++ e :: S2 :=
 isortK_eq hn hp (ins_done h h1 h2)
theorem merge_first {y : List α} {e : α} (sy : Srt key y) (hn : ((e :: y).map key).Nodup) (i : Nat) (hi : i <= y.length) (h1 : ∀ x, 0 < i -> y[i - 1]? = some x -> bytesLt (key x) (key e) = true) (h2 : ∀ x, y[i]? = some x -> bytesLt (key e) (key x) = true) :
  isortK key (e :: y) = y.take i ++ e :: y.drop i :=
 isort_ins (List.perm_middle.trans (by rw [List.take_append_drop])) hn (by rw [List.take_append_drop]; exact sy) (take_lt sy i hi h1) (drop_gt sy i h2)
theorem merge_last {x : List α} {e : α} (sx : Srt key x) (hn : ((x ++ [e]).map key).Nodup) (i : Nat) (hi : i <= x.length) (h1 : ∀ z, 0 < i -> x[i - 1]? = some z -> bytesLt (key z) (key e) = true) (h2 : ∀ z, x[i]? = some z -> bytesLt (key e) (key z) = true) :
  isortK key (x ++ [e]) = x.take i ++ e :: x.drop i :=
 isort_ins ((perm_mid _ _ _).trans (by rw [List.take_append_drop])) hn (by rw [List.take_append_drop]; exact sx) (take_lt sx i hi h1) (drop_gt sx i h2)
theorem merge_cut {x y : List α} (sx : Srt key x) (sy : Srt key y) (hn : ((x ++ y).map key).Nodup) (s t : Nat) (hs : s <= x.length) (ht : t <= y.length)
  (h1 : ∀ a b, 0 < s -> x[s - 1]? = some a -> y[t]? = some b -> bytesLt (key a) (key b) = true)
  (h2 : ∀ a b, 0 < t -> y[t - 1]? = some a -> x[s]? = some b -> bytesLt (key a) (key b) = true) :
  isortK key (x ++ y) = isortK key (x.take s ++ y.take t) ++ isortK key (x.drop s ++ y.drop t) /\ ((x.take s ++ y.take t).map key).Nodup /\ ((x.drop s ++ y.drop t).map key).Nodup := by
 have hn2 := nodup_perm (cut_perm x y s t) hn
 rw [List.map_append, List.nodup_append] at hn2
 refine ⟨isortK_eq hn (((isortK_perm _).append (isortK_perm _)).trans (cut_perm x y s t)) ?_, hn2.1, hn2.2.1⟩
 exact Srt.glue (isortK_srt hn2.1) (isortK_srt hn2.2.1) (isortK_perm _) (isortK_perm _) (cut_lt sx sy s t hs ht h1 h2)
end
section
variable {C : Ctx} {intr : FuncId -> List Value -> Option Value}
theorem VCall.oneR {f : FuncId} {args0 args : List V} {es : Nat} {els : List (List V)} {P : VCR -> List (List V) -> Prop} (h0 : VCall C intr f args0 [.row es els] fun r σ' => ∃ els', σ' = [.row es els'] /\ closedCR r = true /\ (∀ e ∈ els', bdL 0 e = true) /\ P r els')
  (i : Nat) {σ : VS} {K : VCR -> VS -> Prop} (hσ : nth σ i = some (.row es els)) (hc : ∀ e ∈ els, bdL 0 e = true) (hba : bdL 1 args0 = true) (ha : args = renL (emb [i] σ.length) args0) (hk : ∀ r els', P r els' -> K r (σ.set i (.row es els'))) :
  VCall C intr f args σ K := by
 have hren : ∀ (π : Nat -> Nat) (l : List (List V)), (∀ e ∈ l, bdL 0 e = true) -> renO π (.row es l) = .row es l := by
  intro π l h
  simp only [renO]
  congr 1
  conv => rhs; rw [<- List.map_id l]
  exact List.map_congr_left fun e he => renL_closed π e (h e he)
 refine h0.frame [i] rfl (by simp) (fun j i' h => ?_) hba ha (fun r0 σ0' h _ => ?_)
 ·cases j with
  | zero =>
   obtain rfl : i = i' := by simpa using h
   refine ⟨.row es els, rfl, ?_, ?_⟩
   ·rw [<- nth_eq, hσ, hren _ _ hc]
   ·simp only [bdO, List.all_eq_true]
    exact fun e he => bdL_up 1 e (hc e he)
  | succ j => simp at h
 ·obtain ⟨els', rfl, h2, h3, h4⟩ := h
  rw [renCR_closed _ _ h2]
  simp only [List.map_cons, List.map_nil, hren _ _ h3, merge, List.append_nil]
  exact hk r0 els' h4
end
end Go.VM
namespace Go.Proofs.YthfehkcfhiilfaaGreatDoor set_option linter.unusedSimpArgs false set_option linter.unusedVariables false
open Go.AM Go.VM
theorem rows_set (l : List FE) (k : Nat) (x : FE) : (rows l).set k ((fe x).map V.d) = rows (l.set k x) := by
 simp only [rows, List.map_set]
theorem rows_get {l : List FE} {k : Nat} {x : FE} (h : l[k]? = some x) : nth (rows l) k = some ((fe x).map V.d) := by
 rw [nth_eq, rows, List.getElem?_map, List.getElem?_map, h]; rfl
theorem rows_closed (l : List FE) : ∀ e ∈ rows l, bdL 0 e = true := by
 intro e he
 simp only [rows, List.map_map, List.mem_map] at he
 obtain ⟨x, _, rfl⟩ := he
 exact bdL_d 0 (fe x)
theorem rows_len (l : List FE) : (rows l).length = l.length := by simp [rows]
def cmpV : V := .fn F.parser_sorted_1 [] []
set_option maxRecDepth 100000 in
set_option maxHeartbeats 4000000 in
theorem swapRange_spec0 (A u M v B : List FE) (huv : u.length = v.length) (n a b k : Nat) (hn : n = (A ++ (u ++ (M ++ (v ++ B)))).length) (ha : a = A.length) (hb : b = A.length + (u.length + M.length)) (hk : k = u.length) (hl : n < 4294967296) :
  VCall C intr0 F.slices_swapRangeCmpFunc_api_Field [.ms 0 7 0 n n, intV a, intV b, intV k, cmpV] [.row 7 (rows (A ++ (u ++ (M ++ (v ++ B)))))] fun r σ' => σ' = [.row 7 (rows (A ++ (v ++ (M ++ (u ++ B)))))] /\ r = .ret (.tup []) := by
 have hsz : n = A.length + (u.length + (M.length + (v.length + B.length))) := by rw [hn]; simp
 refine VCall.b0 nofz (fun _ => rfl) ?_
 refine VCode.arr (tm0 := [(0, .ms 0 7 0 n n), (1, intV a), (2, intV b), (3, intV k), (10, intV 0)]) (σ0 := [.row 7 (rows (A ++ (v.take 0 ++ (u.drop 0 ++ (M ++ (u.take 0 ++ (v.drop 0 ++ B)))))))]) (.same ⟨rfl, rfl, rfl, rfl, rfl, trivial⟩ rfl) ?_
 refine VCode.iter (fun i : Nat => [(0, .ms 0 7 0 n n), (1, intV a), (2, intV b), (3, intV k), (10, intV i)]) (fun i => [.row 7 (rows (A ++ (v.take i ++ (u.drop i ++ (M ++ (u.take i ++ (v.drop i ++ B)))))))]) (fun i => k - i) (fun i => i <= k) ?_ 0 (Nat.zero_le _)
 intro i hi
 refine vci (fun hc => ?_) (fun hc => ?_)
 ·have hi' : i < k := dlt hc
  have hiu : i < u.length := by omega
  have hiv : i < v.length := by omega
  have eu : u.drop i = u[i] :: u.drop (i + 1) := List.drop_eq_getElem_cons hiu
  have ev : v.drop i = v[i] :: v.drop (i + 1) := List.drop_eq_getElem_cons hiv
  have eu2 : u.take (i + 1) = u.take i ++ [u[i]] := by rw [List.take_add_one, List.getElem?_eq_getElem hiu]; rfl
  have ev2 : v.take (i + 1) = v.take i ++ [v[i]] := by rw [List.take_add_one, List.getElem?_eq_getElem hiv]; rfl
  have hlu : (u.take i).length = i := by simp; omega
  have hlv : (v.take i).length = i := by simp; omega
  have hld : (u.drop (i + 1)).length = u.length - (i + 1) := by simp
  have hf1 : A ++ (v.take i ++ (u.drop i ++ (M ++ (u.take i ++ (v.drop i ++ B))))) = (A ++ v.take i) ++ u[i] :: ((u.drop (i + 1) ++ (M ++ u.take i)) ++ v[i] :: (v.drop (i + 1) ++ B)) := by rw [eu, ev]; simp only [List.append_assoc, List.cons_append, List.nil_append]
  have hf2 : A ++ (v.take (i + 1) ++ (u.drop (i + 1) ++ (M ++ (u.take (i + 1) ++ (v.drop (i + 1) ++ B))))) = (A ++ v.take i) ++ v[i] :: ((u.drop (i + 1) ++ (M ++ u.take i)) ++ u[i] :: (v.drop (i + 1) ++ B)) := by rw [eu2, ev2]; simp only [List.append_assoc, List.cons_append, List.nil_append]
  have ha' : a + i = (A ++ v.take i).length := by rw [List.length_append, hlv]; omega
  have hb' : b + i = (A ++ v.take i).length + 1 + (u.drop (i + 1) ++ (M ++ u.take i)).length := by simp only [List.length_append, hlv, hlu, hld]; omega
  have hwa : IntKind.i64.wrap (Int.ofNat a + Int.ofNat i) = Int.ofNat (a + i) := wrap_add (by omega)
  have hwb : IntKind.i64.wrap (Int.ofNat b + Int.ofNat i) = Int.ofNat (b + i) := wrap_add (by omega)
  have ga := get_mid (A ++ v.take i) ((u.drop (i + 1) ++ (M ++ u.take i)) ++ v[i] :: (v.drop (i + 1) ++ B)) u[i] (a + i) ha'
  have gb := get_mid2 (A ++ v.take i) (u.drop (i + 1) ++ (M ++ u.take i)) (v.drop (i + 1) ++ B) u[i] v[i] (b + i) hb'
  have gs := swap_at (A ++ v.take i) (u.drop (i + 1) ++ (M ++ u.take i)) (v.drop (i + 1) ++ B) u[i] v[i] (a + i) (b + i) ha' hb'
  rw [<- hf1] at ga gb gs
  rw [<- hf2] at gs
  generalize u[i] = x at ga gb gs
  generalize v[i] = y at ga gb gs
  dsimp only
  generalize A ++ (v.take i ++ (u.drop i ++ (M ++ (u.take i ++ (v.drop i ++ B))))) = cur at ga gb gs ⊢
  have hna : nth (rows cur) (0 + (a + i)) = some ((fe x).map V.d) := by rw [Nat.zero_add]; exact rows_get ga
  have hnb : nth (rows cur) (0 + (b + i)) = some ((fe y).map V.d) := by rw [Nat.zero_add]; exact rows_get gb
  have hnb2 : nth ((rows cur).set (0 + (a + i)) ((fe y).map V.d)) (0 + (b + i)) = some ((fe y).map V.d) := by
   rw [nth_eq, List.getElem?_set_ne (by omega), <- nth_eq]; exact hnb
  have lta : a + i < n := by omega
  have ltb : b + i < n := by omega
  repeat first
   | refine vnf hwa ?_
   | refine vnf hwb ?_
   | refine vni lta ?_
   | refine vni ltb ?_
   | refine exf _ hnb2 ?_
   | refine exf _ hna ?_
   | refine exf _ hnb ?_
   | refine vni (by repeat' (first | exact trivial | exact rfl | exact lta | exact ltb | refine vnf hwa ?_ | refine vnf hwb ?_ | refine exf _ hna ?_ | refine exf _ hnb ?_ | refine exf _ hnb2 ?_ | refine vni lta ?_ | refine vni ltb ?_ | refine And.intro ?_ ?_)) ?_
  refine ⟨i + 1, hi', by show k - (i + 1) < k - i; omega, .same ⟨rfl, rfl, rfl, rfl, int_eq (wrap_succ (by omega)), trivial⟩ ?_, rfl, rfl⟩
  rw [<- gs, <- rows_set, <- rows_set, Nat.zero_add, Nat.zero_add]
  rfl
 ·have hi' : k <= i := dnlt hc
  refine ⟨?_, rfl⟩
  rw [List.take_of_length_le (by omega), List.take_of_length_le (by omega), List.drop_of_length_le (by omega), List.drop_of_length_le (by omega)]
  simp
theorem wrap_sub {a b : Nat} (h : b <= a) (h2 : a < 9223372036854775808) : IntKind.i64.wrap (Int.ofNat a - Int.ofNat b) = Int.ofNat (a - b) := by
 simp only [Int.ofNat_eq_natCast]
 rw [wrap64 (by omega) (by omega)]
 omega
theorem vi {a b : Int} {k : IntKind} (h : a = b) : V.d (.int k a) = V.d (.int k b) := by rw [h]
theorem dne {a b : Nat} (h : (!decide (Int.ofNat a = Int.ofNat b)) = true) : a ≠ b := by
 rw [Bool.not_eq_true'] at h
 exact dneq h
theorem dne' {a b : Nat} (h : (!decide (Int.ofNat a = Int.ofNat b)) = false) : a = b := by
 rw [Bool.not_eq_false'] at h
 exact deq h
theorem swap_at_call (A u M v B : List FE) (huv : u.length = v.length) (n a b k : Nat) (X : List FE) (hX : X = A ++ (u ++ (M ++ (v ++ B)))) (hn : n = X.length) (ha : a = A.length) (hb : b = A.length + (u.length + M.length)) (hk : k = u.length) (hl : n < 4294967296)
  {a' b' k' : V} (ha' : a' = intV a) (hb' : b' = intV b) (hk' : k' = intV k) {K : VCR -> VS -> Prop} (hK : K (.ret (.tup [])) [.row 7 (rows (A ++ (v ++ (M ++ (u ++ B)))))]) : VCall C intr0 F.slices_swapRangeCmpFunc_api_Field [.ms 0 7 0 n n, a', b', k', cmpV] [.row 7 (rows X)] K := by
 subst ha' hb' hk' hX
 refine (swapRange_spec0 A u M v B huv n a b k hn ha hb hk hl).mono (fun r σ' h => ?_)
 rw [h.1, h.2]
 exact hK
set_option maxRecDepth 100000 in
set_option maxHeartbeats 4000000 in
theorem rotate_spec0 (A u v B : List FE) (hu : 0 < u.length) (hv : 0 < v.length) (n a m b : Nat) (hn : n = (A ++ (u ++ (v ++ B))).length) (ha : a = A.length) (hm : m = A.length + u.length) (hb : b = A.length + (u.length + v.length)) (hl : n < 4294967296) :
  VCall C intr0 F.slices_rotateCmpFunc_api_Field [.ms 0 7 0 n n, intV a, intV m, intV b, cmpV] [.row 7 (rows (A ++ (u ++ (v ++ B))))] fun r σ' => σ' = [.row 7 (rows (A ++ (v ++ (u ++ B))))] /\ r = .ret (.tup []) := by
 have hsz : n = A.length + (u.length + (v.length + B.length)) := by rw [hn]; simp
 refine VCall.b0 nofz (fun _ => rfl) ?_
 refine VCode.arr (tm0 := [(0, .ms 0 7 0 n n), (2, intV m), (4, cmpV), (10, intV u.length), (11, intV v.length)]) (σ0 := [.row 7 (rows (A ++ (u ++ (v ++ B))))]) (.same ⟨rfl, rfl, rfl, int_eq (by rw [wrap_sub (by omega) (by omega)]; congr 1; omega), int_eq (by rw [wrap_sub (by omega) (by omega)]; congr 1; omega), trivial⟩ rfl) ?_
 refine VCode.iter (fun x : List FE × List FE × List FE × List FE => [(0, .ms 0 7 0 n n), (2, intV m), (4, cmpV), (10, intV x.2.1.length), (11, intV x.2.2.1.length)]) (fun x => [.row 7 (rows (x.1 ++ (x.2.1 ++ (x.2.2.1 ++ x.2.2.2))))]) (fun x => x.2.1.length + x.2.2.1.length)
  (fun x => 0 < x.2.1.length /\ 0 < x.2.2.1.length /\ m = x.1.length + x.2.1.length /\ n = x.1.length + (x.2.1.length + (x.2.2.1.length + x.2.2.2.length)) /\ A ++ (v ++ (u ++ B)) = x.1 ++ (x.2.2.1 ++ (x.2.1 ++ x.2.2.2))) ?_ (A, u, v, B) ⟨hu, hv, hm, hsz, rfl⟩
 rintro ⟨A', u', v', B'⟩ ⟨hu', hv', hm', hs', he⟩
 have hu' : 0 < u'.length := hu'
 have hv' : 0 < v'.length := hv'
 have hm' : m = A'.length + u'.length := hm'
 have hs' : n = A'.length + (u'.length + (v'.length + B'.length)) := hs'
 have he : A ++ (v ++ (u ++ B)) = A' ++ (v' ++ (u' ++ B')) := he
 refine vci (fun hc => ?_) (fun hc => ?_)
 ·have hc' := dne hc
  refine vci (fun hg => ?_) (fun hg => ?_)
  ·have hg' : v'.length < u'.length := dlt hg
   obtain ⟨u1, u2, rfl, hu1⟩ := cut_at u' v'.length (by omega)
   simp only [List.length_append] at hu' hm' hs' hc' hg'
   refine swap_at_call A' u1 u2 v' B' hu1 n (m - (u1 ++ u2).length) m v'.length _ (by simp) (by simp; omega) (by simp; omega) (by omega) (by omega) hl (vi (wrap_sub (by simp; omega) (by omega))) rfl rfl ?_
   refine ⟨(A' ++ v', u2, u1, B'), ⟨by show 0 < u2.length; omega, by show 0 < u1.length; omega, by show m = (A' ++ v').length + u2.length; simp; omega, by show n = (A' ++ v').length + (u2.length + (u1.length + B'.length)); simp; omega, ?_⟩, by show u2.length + u1.length < (u1 ++ u2).length + v'.length; simp; omega, .same ⟨rfl, rfl, rfl, int_eq ?_, int_eq (by rw [hu1]), trivial⟩ ?_, rfl, rfl⟩
   ·show _ = (A' ++ v') ++ (u1 ++ (u2 ++ B'))
    rw [he]; simp
   ·rw [wrap_sub (by simp; omega) (by simp; omega)]
    congr 1; simp; omega
   ·show [VObj.row 7 (rows (A' ++ (v' ++ (u2 ++ (u1 ++ B')))))] = [.row 7 (rows ((A' ++ v') ++ (u2 ++ (u1 ++ B'))))]
    rw [List.append_assoc]
  ·have hg' : u'.length <= v'.length := dnlt hg
   obtain ⟨v1, v2, rfl, hv1⟩ := cut_at v' (v'.length - u'.length) (by omega)
   simp only [List.length_append] at hv' hs' hc' hg' hv1
   refine swap_at_call A' u' v1 v2 B' (by omega) n (m - u'.length) (m + (v1 ++ v2).length - u'.length) u'.length _ (by simp) (by simp; omega) (by omega) (by simp; omega) rfl hl (vi (wrap_sub (by omega) (by omega))) (vi ?_) rfl ?_
   ·rw [wrap_add (by simp; omega), wrap_sub (by simp; omega) (by simp; omega)]
   refine ⟨(A', v2, v1, u' ++ B'), ⟨by show 0 < v2.length; omega, by show 0 < v1.length; omega, by show m = A'.length + v2.length; omega, by show n = A'.length + (v2.length + (v1.length + (u' ++ B').length)); simp; omega, ?_⟩, by show v2.length + v1.length < u'.length + (v1 ++ v2).length; simp; omega, .same ⟨rfl, rfl, rfl, int_eq (congrArg Int.ofNat (show u'.length = v2.length by omega)), int_eq ?_, trivial⟩ rfl, rfl, rfl⟩
   ·show _ = A' ++ (v1 ++ (v2 ++ (u' ++ B')))
    rw [he]; simp
   ·rw [wrap_sub (by simp; omega) (by simp; omega)]
    congr 1; simp; omega
 ·have hc' := dne' hc
  refine swap_at_call A' u' [] v' B' hc' n (m - u'.length) m u'.length _ (by simp) (by simp; omega) (by omega) (by simp; omega) rfl hl (vi (wrap_sub (by omega) (by omega))) rfl rfl ?_
  refine ⟨?_, rfl⟩
  rw [he]
  rfl
theorem so_ext (a b : List UInt8) : C.ext F.bytealg_abigen_runtime_cmpstring ([D.str a, D.str b].map eraseD) = some (eraseD (.int .i64 (cmpB a b))) := by
 show ext 164 [.string ⟨⟨a⟩⟩, .string ⟨⟨b⟩⟩] = _
 rfl
theorem so_compare (a b : List UInt8) {σ : VS} {K : VCR -> VS -> Prop} (hk : K (.ret (.d (.int .i64 (cmpB a b)))) σ) : VCall C intr0 F.strings_Compare [strV a, strV b] σ K := by
 refine VCall.b0 nofz (fun _ => rfl) ?_
 refine VCall.b0 nofz (fun _ => rfl) ?_
 refine ex3_of (.int .i64 (cmpB a b)) (so_ext a b) rfl ?_
 exact hk
theorem so_lt {a b : List UInt8} : decide (cmpB a b < 0) = bytesLt a b := by
 rw [cmpB]
 cases bytesLt a b with
 | true => rfl
 | false => cases bytesEq a b <;> rfl
theorem cmp1_spec (x y : FE) {σ : VS} {K : VCR -> VS -> Prop} (hk : K (.ret (.d (.int .i64 (cmpB x.n y.n)))) σ) : VCall C intr0 F.parser_sorted_1 [fw x, fw y] σ K := by
 refine VCall.pure ?_ rfl rfl hk
 refine VCall.b1 nofz (fun _ => rfl) ?_
 refine so_compare x.n y.n ?_
 refine VUpd.drop 0 ?_ ?_ ?_ ?_
 iterate 3 exact rfl
 exact VUpd.now rfl ⟨rfl, rfl⟩
def insT (n a b i : Nat) : Tm := [(0, .ms 0 7 0 n n), (1, intV a), (2, intV b), (3, cmpV), (8, intV i)]
def insT2 (n a b i j : Nat) : Tm := [(0, .ms 0 7 0 n n), (1, intV a), (2, intV b), (3, cmpV), (8, intV i), (9, intV j)]
set_option maxRecDepth 100000 in
set_option maxHeartbeats 8000000 in
theorem insertion_spec0 (A x B : List FE) (hnd : (x.map FE.n).Nodup) (n a b : Nat) (hn : n = (A ++ (x ++ B)).length) (ha : a = A.length) (hb : b = A.length + x.length) (hl : n < 4294967296) :
  VCall C intr0 F.slices_insertionSortCmpFunc_api_Field [.ms 0 7 0 n n, intV a, intV b, cmpV] [.row 7 (rows (A ++ (x ++ B)))] fun r σ' => σ' = [.row 7 (rows (A ++ (isortK FE.n x ++ B)))] /\ r = .ret (.tup []) := by
 have hsz : n = A.length + (x.length + B.length) := by rw [hn]; simp
 refine VCall.b0 nofz (fun _ => rfl) ?_
 have e1 : isortK FE.n (x.take 1) = x.take 1 := by cases x <;> rfl
 refine VCode.arr (tm0 := insT n a b (a + 1)) (σ0 := [.row 7 (rows (A ++ (isortK FE.n (x.take 1) ++ (x.drop 1 ++ B))))]) (.same ⟨rfl, rfl, rfl, rfl, int_eq (wrap_succ (by omega)), trivial⟩ ?_) ?_
 ·show [VObj.row 7 (rows (A ++ (x ++ B)))] = _
  rw [e1, <- List.append_assoc (x.take 1), List.take_append_drop]
 refine VCode.iter (fun c : Nat => insT n a b (a + c)) (fun c => [.row 7 (rows (A ++ (isortK FE.n (x.take c) ++ (x.drop c ++ B))))]) (fun c => x.length - c) (fun c => 1 <= c /\ (c <= x.length ∨ c = 1)) ?_ 1 ⟨Nat.le_refl _, .inr rfl⟩
 rintro c ⟨hc1, hc2⟩
 refine vci (fun hc => ?_) (fun hc => ?_)
 ·have hc' : c < x.length := by have := dlt hc; omega
  have hxc : x[c]? = some x[c] := List.getElem?_eq_getElem hc'
  have htk : x.take (c + 1) = x.take c ++ [x[c]] := by rw [List.take_add_one, hxc]; rfl
  have hdr : x.drop c = x[c] :: x.drop (c + 1) := List.drop_eq_getElem_cons hc'
  have hnd1 : ((x.take (c + 1)).map FE.n).Nodup := by
   have : (x.take (c + 1)).map FE.n = (x.map FE.n).take (c + 1) := by rw [List.map_take]
   rw [this]; exact (List.take_sublist _ _).nodup hnd
  generalize x[c] = e at htk hdr hxc
  have hndc : ((x.take c).map FE.n).Nodup := by rw [htk, List.map_append, List.nodup_append] at hnd1; exact hnd1.1
  have hne : ∀ z ∈ x.take c, z.n ≠ e.n := by
   intro z hz he
   rw [htk, List.map_append, List.nodup_append] at hnd1
   exact hnd1.2.2 z.n (List.mem_map_of_mem hz) e.n (by simp) he
  have hSs := isortK_srt (key := FE.n) hndc
  have hSp := isortK_perm (key := FE.n) (x.take c)
  have hSl : (isortK FE.n (x.take c)).length = c := by rw [isortK_len]; simp; omega
  have hnS : ∀ z ∈ isortK FE.n (x.take c), z.n ≠ e.n := fun z hz => hne z (hSp.subset hz)
  have hfin : ∀ S1 S2, S1 ++ S2 = isortK FE.n (x.take c) -> (∀ z ∈ S1, bytesLt z.n e.n = true) -> (∀ z ∈ S2, bytesLt e.n z.n = true) -> isortK FE.n (x.take (c + 1)) = S1 ++ e :: S2 := by
   intro S1 S2 h12 h1 h2
   refine isortK_eq hnd1 ?_ (ins_done (by rw [h12]; exact hSs) h1 h2)
   rw [htk]
   refine (perm_mid S1 S2 e).trans ?_
   rw [h12]
   exact hSp.append_right _
  generalize isortK FE.n (x.take c) = S at hSs hSl hnS hfin
  have hDl : (x.drop (c + 1)).length = x.length - (c + 1) := by simp
  refine VCode.arr (tm0 := insT2 n a b (a + c) (a + S.length)) (σ0 := [.row 7 (rows (A ++ (S ++ (e :: ([] ++ (x.drop (c + 1) ++ B))))))]) (.same ⟨rfl, rfl, rfl, rfl, rfl, by rw [hSl]; rfl, trivial⟩ ?_) ?_
  ·show [VObj.row 7 (rows (A ++ (S ++ (x.drop c ++ B))))] = _
   rw [hdr]; rfl
  refine VCode.iter (fun y : List FE × List FE => insT2 n a b (a + c) (a + y.1.length)) (fun y => [.row 7 (rows (A ++ (y.1 ++ (e :: (y.2 ++ (x.drop (c + 1) ++ B))))))]) (fun y => y.1.length) (fun y => y.1 ++ y.2 = S /\ ∀ z ∈ y.2, bytesLt e.n z.n = true) ?_ (S, []) ⟨by simp, by simp⟩
  rintro ⟨S1, S2⟩ ⟨h12, h2⟩
  have h12 : S1 ++ S2 = S := h12
  have h2 : ∀ z ∈ S2, bytesLt e.n z.n = true := h2
  have hl12 : S1.length + S2.length = c := by rw [<- hSl, <- h12]; simp
  refine vci (fun hg => ?_) (fun hg => ?_)
  ·have hg' : 0 < S1.length := by have : a < a + S1.length := dlt hg; omega
   obtain ⟨S1', z, rfl⟩ := cut_last S1 hg'
   have hll : (S1' ++ [z]).length = S1'.length + 1 := by simp
   have hf : A ++ ((S1' ++ [z]) ++ (e :: (S2 ++ (x.drop (c + 1) ++ B)))) = (A ++ S1') ++ z :: ([] ++ e :: (S2 ++ (x.drop (c + 1) ++ B))) := by simp only [List.append_assoc, List.cons_append, List.nil_append]
   have hf2 : A ++ (S1' ++ (e :: ((z :: S2) ++ (x.drop (c + 1) ++ B)))) = (A ++ S1') ++ e :: ([] ++ z :: (S2 ++ (x.drop (c + 1) ++ B))) := by simp only [List.append_assoc, List.cons_append, List.nil_append]
   have hz' : a + S1'.length = (A ++ S1').length := by simp [ha]
   have gz := get_mid (A ++ S1') ([] ++ e :: (S2 ++ (x.drop (c + 1) ++ B))) z (a + S1'.length) hz'
   have ge := get_mid2 (A ++ S1') [] (S2 ++ (x.drop (c + 1) ++ B)) z e (a + (S1'.length + 1)) (by simp [ha]; omega)
   have gs := swap_at' (A ++ S1') [] (S2 ++ (x.drop (c + 1) ++ B)) z e (a + S1'.length) (a + (S1'.length + 1)) hz' (by simp [ha]; omega)
   rw [<- hf] at gz ge gs
   rw [<- hf2] at gs
   have lt1 : a + (S1'.length + 1) < n := by rw [hll] at hl12; omega
   have lt2 : a + S1'.length < n := by omega
   have hzm : z ∈ S := by rw [<- h12]; simp
   have hmem := hnS z hzm
   have hSs1 : Srt FE.n (S1' ++ [z]) := by
    have := hSs; rw [<- h12] at this; exact (List.pairwise_append.1 this).1
   dsimp only at hg ⊢
   rw [hll] at hg ⊢
   generalize hcur : A ++ ((S1' ++ [z]) ++ (e :: (S2 ++ (x.drop (c + 1) ++ B)))) = cur at gz ge gs ⊢
   have hw1 : IntKind.i64.wrap (Int.ofNat (a + (S1'.length + 1)) - 1) = Int.ofNat (a + S1'.length) := by
    have := wrap_sub (a := a + (S1'.length + 1)) (b := 1) (by omega) (by omega)
    rw [show a + (S1'.length + 1) - 1 = a + S1'.length from by omega] at this
    exact this
   have hne1 : nth (rows cur) (0 + (a + (S1'.length + 1))) = some ((fe e).map V.d) := by rw [Nat.zero_add]; exact rows_get ge
   have hnz1 : nth (rows cur) (0 + (a + S1'.length)) = some ((fe z).map V.d) := by rw [Nat.zero_add]; exact rows_get gz
   have hnz2 : nth ((rows cur).set (0 + (a + (S1'.length + 1))) ((fe z).map V.d)) (0 + (a + S1'.length)) = some ((fe z).map V.d) := by
    rw [nth_eq, List.getElem?_set_ne (by omega), <- nth_eq]; exact hnz1
   repeat first
    | refine vnf hw1 ?_
    | refine vnf rfl ?_
    | refine vni lt1 ?_
    | refine vni lt2 ?_
    | refine exf _ hnz2 ?_
    | refine exf _ hne1 ?_
    | refine exf _ hnz1 ?_
    | refine vcp hg ?_
    | refine vni (by repeat' (first | exact trivial | exact rfl | exact lt1 | exact lt2 | refine vnf hw1 ?_ | refine vnf rfl ?_ | refine exf _ hne1 ?_ | refine exf _ hnz1 ?_ | refine exf _ hnz2 ?_ | refine vni lt1 ?_ | refine vni lt2 ?_ | refine vcp hg ?_ | refine And.intro ?_ ?_)) ?_
   refine cmp1_spec e z ?_
   repeat first
    | refine vnf hw1 ?_
    | refine vnf rfl ?_
    | refine vni lt1 ?_
    | refine vni lt2 ?_
    | refine exf _ hnz2 ?_
    | refine exf _ hne1 ?_
    | refine exf _ hnz1 ?_
    | refine vcp hg ?_
    | refine vni (by repeat' (first | exact trivial | exact rfl | exact lt1 | exact lt2 | refine vnf hw1 ?_ | refine vnf rfl ?_ | refine exf _ hne1 ?_ | refine exf _ hnz1 ?_ | refine exf _ hnz2 ?_ | refine vni lt1 ?_ | refine vni lt2 ?_ | refine vcp hg ?_ | refine And.intro ?_ ?_)) ?_
   refine vci (fun hq => ?_) (fun hq => ?_)
   ·have hq' : bytesLt e.n z.n = true := by rw [<- so_lt]; exact hq
    repeat first
     | refine vnf hw1 ?_
     | refine vnf rfl ?_
     | refine vni lt1 ?_
     | refine vni lt2 ?_
     | refine exf _ hnz2 ?_
     | refine exf _ hne1 ?_
     | refine exf _ hnz1 ?_
     | refine vcp hg ?_
     | refine vni (by repeat' (first | exact trivial | exact rfl | exact lt1 | exact lt2 | refine vnf hw1 ?_ | refine vnf rfl ?_ | refine exf _ hne1 ?_ | refine exf _ hnz1 ?_ | refine exf _ hnz2 ?_ | refine vni lt1 ?_ | refine vni lt2 ?_ | refine vcp hg ?_ | refine And.intro ?_ ?_)) ?_
    refine ⟨(S1', z :: S2), ⟨by rw [<- h12]; simp, fun w hw => ?_⟩, by show S1'.length < S1'.length + 1; omega, .same ⟨rfl, rfl, rfl, rfl, rfl, int_eq hw1, trivial⟩ ?_, rfl, rfl⟩
    ·rcases List.mem_cons.1 hw with rfl | hw
     ·exact hq'
     ·exact h2 w hw
    ·show _ = [VObj.row 7 (rows (A ++ (S1' ++ (e :: ((z :: S2) ++ (x.drop (c + 1) ++ B))))))]
     rw [<- gs, <- rows_set, <- rows_set, Nat.zero_add, Nat.zero_add]
     rfl
   ·have hq' : bytesLt e.n z.n = false := by rw [<- so_lt]; exact hq
    have hze : bytesLt z.n e.n = true := blt_tot _ _ hq' (fun h => hmem h.symm)
    refine ⟨c + 1, ⟨by omega, .inl hc'⟩, by show x.length - (c + 1) < x.length - c; omega, .same ⟨rfl, rfl, rfl, rfl, int_eq (wrap_succ (by omega)), trivial⟩ ?_, rfl, rfl⟩
    have := hfin (S1' ++ [z]) S2 h12 (srt_last hSs1 hze) h2
    show [VObj.row 7 (rows cur)] = [VObj.row 7 (rows (A ++ (isortK FE.n (x.take (c + 1)) ++ (x.drop (c + 1) ++ B))))]
    rw [this, <- hcur]
    simp
  ·have hg' : S1.length = 0 := by have h0 : a + S1.length <= a := dnlt hg; omega
   repeat first | refine vcn hg ?_ | refine vni (by repeat' (first | exact trivial | exact rfl | refine vnf rfl ?_ | refine vcn hg ?_ | refine And.intro ?_ ?_)) ?_
   have hnil := List.eq_nil_of_length_eq_zero hg'
   subst hnil
   refine ⟨c + 1, ⟨by omega, .inl hc'⟩, by show x.length - (c + 1) < x.length - c; omega, .same ⟨rfl, rfl, rfl, rfl, int_eq (wrap_succ (by omega)), trivial⟩ ?_, rfl, rfl⟩
   have := hfin [] S2 h12 (by simp) h2
   show _ = [VObj.row 7 (rows (A ++ (isortK FE.n (x.take (c + 1)) ++ (x.drop (c + 1) ++ B))))]
   rw [this]
   simp
 ·have hc' : x.length <= c := by have := dnlt hc; omega
  refine ⟨?_, rfl⟩
  rw [List.take_of_length_le hc', List.drop_of_length_le hc']
  rfl
end Go.Proofs.YthfehkcfhiilfaaGreatDoor
