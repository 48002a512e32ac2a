/- Contracts of the reference's lexer, part one. -/
import Derived.Test.YtifncjhjnjldmaaGreatDoorKLb
namespace Go.Proofs.YtifncjhjnjldmaaGreatDoor set_option linter.unusedSimpArgs false set_option linter.unusedVariables false
open Go.AM Go.VM
set_option maxHeartbeats 4000000 in
theorem r_small_spec (c : UInt8) {σ : VS} {K : VCR -> VS -> Prop} (hk : K (.ret (boolV (isSmall c))) σ) : VCall C intr0 F.modcertref03_small [byteV c] σ K := by
 refine VCall.b0 nofz (fun _ => rfl) ?_
 refine vci (fun h => ?_) (fun h => ?_)
 ·exact vcp h (vcp h (retb_of (by simp only [isSmall, h, Bool.true_and]) hk))
 ·exact vcn h (vcn h (retb_of (by simp only [isSmall, h, Bool.false_and]) hk))
set_option maxHeartbeats 4000000 in
theorem r_capital_spec (c : UInt8) {σ : VS} {K : VCR -> VS -> Prop} (hk : K (.ret (boolV (isCapital c))) σ) : VCall C intr0 F.modcertref03_capital [byteV c] σ K := by
 refine VCall.b0 nofz (fun _ => rfl) ?_
 refine vci (fun h => ?_) (fun h => ?_)
 ·exact vcp h (vcp h (retb_of (by simp only [isCapital, h, Bool.true_and]) hk))
 ·exact vcn h (vcn h (retb_of (by simp only [isCapital, h, Bool.false_and]) hk))
set_option maxHeartbeats 4000000 in
theorem r_digit_spec (c : UInt8) {σ : VS} {K : VCR -> VS -> Prop} (hk : K (.ret (boolV (isDigit c))) σ) : VCall C intr0 F.modcertref03_digit [byteV c] σ K := by
 refine VCall.b0 nofz (fun _ => rfl) ?_
 refine vci (fun h => ?_) (fun h => ?_)
 ·exact vcp h (vcp h (retb_of (by simp only [isDigit, h, Bool.true_and]) hk))
 ·exact vcn h (vcn h (retb_of (by simp only [isDigit, h, Bool.false_and]) hk))
set_option maxHeartbeats 4000000 in
theorem r_word_spec (c : UInt8) {σ : VS} {K : VCR -> VS -> Prop} (hk : K (.ret (boolV (isWord c))) σ) : VCall C intr0 F.modcertref03_word [byteV c] σ K := by
 refine VCall.b0 nofz (fun _ => rfl) ?_
 refine r_small_spec c ?_
 refine vci (fun h1 => ?_) (fun h1 => ?_)
 ·exact vcp h1 (vcp h1 (retb_of (by simp only [isWord, h1, Bool.true_or]) hk))
 ·refine vcn h1 (r_capital_spec c ?_)
  refine vcn h1 ?_
  refine vci (fun h2 => ?_) (fun h2 => ?_)
  ·exact vcp h2 (vcp h2 (retb_of (by simp only [isWord, h2, Bool.true_or, Bool.or_true]) hk))
  ·refine vcn h2 (r_digit_spec c ?_)
   refine vcn h2 ?_
   refine vci (fun h3 => ?_) (fun h3 => ?_)
   ·exact vcp h3 (vcp h3 (retb_of (by simp only [isWord, h3, Bool.true_or, Bool.or_true]) hk))
   ·exact vcn h3 (vcn h3 (retb_of (by simp only [isWord, h1, h2, h3, Bool.false_or]) hk))
def hexI (c : UInt8) : Int := match hexN c with
 | some n => Int.ofNat n
 | none => -1
set_option maxHeartbeats 4000000 in
theorem r_hex_spec (c : UInt8) {σ : VS} {K : VCR -> VS -> Prop} (hk : K (.ret (.d (.int .i64 (hexI c)))) σ) : VCall C intr0 F.modcertref03_hex [byteV c] σ K := by
 refine VCall.b0 nofz (fun _ => rfl) ?_
 refine r_digit_spec c ?_
 refine vci (fun h => ?_) (fun h => ?_)
 ·refine reti_of ?_ hk
  have hd := digit_lt h
  simp only [hexI, hexN, h, if_pos]
  rw [wrap8 (by simp only [Int.ofNat_eq_natCast]; omega) (by simp only [Int.ofNat_eq_natCast]; omega), wrap64 (by simp only [Int.ofNat_eq_natCast]; omega) (by simp only [Int.ofNat_eq_natCast]; omega)]
  simp only [Int.ofNat_eq_natCast]; omega
 ·refine vci (fun h1 => ?_) (fun h1 => ?_)
  ·have h1' : 97 <= c.toNat := dle (a := 97) h1
   repeat refine vcp h1 ?_
   refine vci (fun h2 => ?_) (fun h2 => ?_)
   ·have h2' : c.toNat <= 102 := dle (b := 102) h2
    refine reti_of ?_ hk
    simp only [hexI, hexN, h, decide_eq_true h1', decide_eq_true h2', Bool.and_self, if_pos]
    rw [wrap8 (n := Int.ofNat c.toNat - 97) (by simp only [Int.ofNat_eq_natCast]; omega) (by simp only [Int.ofNat_eq_natCast]; omega)]
    rw [wrap64 (n := Int.ofNat c.toNat - 97) (by simp only [Int.ofNat_eq_natCast]; omega) (by simp only [Int.ofNat_eq_natCast]; omega)]
    rw [wrap64 (by simp only [Int.ofNat_eq_natCast]; omega) (by simp only [Int.ofNat_eq_natCast]; omega)]
    simp only [Int.ofNat_eq_natCast, Bool.false_eq_true, if_false]
    omega
   ·have h2' : ¬ c.toNat <= 102 := Nat.not_le_of_lt (dnle (b := 102) h2)
    refine reti_of ?_ hk
    simp only [hexI, hexN, h, decide_eq_false h2', Bool.and_false, Bool.false_eq_true, if_false]
  ·have h1' : ¬ 97 <= c.toNat := Nat.not_le_of_lt (dnle (a := 97) h1)
   repeat refine vcn h1 ?_
   refine reti_of ?_ hk
   simp only [hexI, hexN, h, decide_eq_false h1', Bool.false_and, Bool.false_eq_true, if_false]
set_option maxHeartbeats 4000000 in
theorem r_words_spec (s : List UInt8) (hs : s.length < 4294967296) {σ : VS} {K : VCR -> VS -> Prop} (hk : K (.ret (boolV (s.all isWord))) σ) : VCall C intr0 F.modcertref03_words [strV s] σ K := by
 refine VCall.b0 nofz (fun _ => rfl) ?_
 refine VCode.less (tm0 := [(3, intV 0), (0, strV s)]) ⟨rfl, rfl, trivial⟩ ?_
 refine VCode.iter (fun i : Nat => [(3, intV i), (0, strV s)]) (fun _ => σ) (fun i => s.length - i) (fun i => i <= s.length /\ (s.take i).all isWord = true) ?_ 0 ⟨by omega, by simp⟩
 rintro i ⟨hi, hp⟩
 refine vci (fun h => ?_) (fun h => ?_)
 ·have h : i < s.length := dlt h
  have hgi : s[i]? = some s[i] := List.getElem?_eq_getElem h
  refine vnf rfl (exf s[i] (by rw [nth_eq]; exact hgi) ?_)
  refine r_word_spec s[i] ?_
  refine vci (fun h2 => ?_) (fun h2 => ?_)
  ·refine retb_of ?_ hk
   symm
   rw [List.all_eq_false]
   exact ⟨s[i], List.getElem_mem h, by simpa using h2⟩
  ·refine ⟨i + 1, ⟨by omega, ?_⟩, by omega, .same ⟨int_eq (wrap_succ (by omega)), rfl, trivial⟩ rfl, rfl, rfl⟩
   rw [List.take_add_one, hgi]
   simp only [List.all_append, hp, Option.toList, List.all_cons, List.all_nil, Bool.and_true, Bool.true_and]
   simpa using h2
 ·have h : s.length <= i := dnlt h
  refine retb_of ?_ hk
  rw [List.take_of_length_le (by omega)] at hp
  exact hp.symm
def kwL : List (List UInt8) := [[97, 110, 100], [97, 110, 121], [97, 115], [98, 111, 111, 108], [100, 101, 112, 114, 101, 99, 97, 116, 101, 100], [101, 108, 115, 101], [101, 120, 112, 111, 114, 116], [102, 97, 108, 115, 101], [102, 110], [102, 111, 108, 100], [102, 114, 111, 109], [105, 102], [105, 109, 112, 111, 114, 116], [105, 110], [105, 110, 116], [108, 101, 110, 103, 116, 104], [108, 101, 116], [108, 105, 115, 116], [109, 97, 116, 99, 104], [109, 111, 100, 117, 108, 101], [110, 111, 110, 101], [110, 111, 116], [111, 114], [116, 101, 120, 116], [116, 104, 101, 110], [116, 114, 117, 101], [116, 121, 112, 101], [117, 115, 101]]
def strsC (l : List (List UInt8)) : List (List D) := l.map fun s => [.str s]
def kwfz : Nat -> Bool := fun t => Nat.beq t 1
set_option maxHeartbeats 4000000 in
theorem r_keywords_spec {σ : VS} {K : VCR -> VS -> Prop} (hk : ∀ b, K (.ret (.d (.ps b 0 1 28 (strsC kwL)))) σ) : VCall C intr0 F.modcertref03_Keywords [] σ K := by
 refine VCall.b0 kwfz (fun _ => rfl) ?_
 intro b
 exact hk b
set_option maxHeartbeats 4000000 in
theorem r_has_spec (l : List (List UInt8)) (hl : l.length < 4294967296) (s : List UInt8) (b cap : Nat) {σ : VS} {K : VCR -> VS -> Prop} (hk : K (.ret (boolV (decide (s ∈ l)))) σ) : VCall C intr0 F.modcertref03_Has [.d (.ps b 0 1 cap (strsC l)), strV s] σ K := by
 refine VCall.b0 nofz (fun _ => rfl) ?_
 have hel : (strsC l).length = l.length := by simp [strsC]
 refine VCode.less (tm0 := [(5, intV 0), (0, .d (.ps b 0 1 cap (strsC l))), (1, strV s)]) ⟨rfl, rfl, rfl, trivial⟩ ?_
 refine VCode.iter (fun i : Nat => [(5, intV i), (0, .d (.ps b 0 1 cap (strsC l))), (1, strV s)]) (fun _ => σ) (fun i => l.length - i) (fun i => i <= l.length /\ s ∉ l.take i) ?_ 0 ⟨by omega, by simp⟩
 rintro i ⟨hi, hp⟩
 refine vci (fun h => ?_) (fun h => ?_)
 ·have h : i < l.length := hel ▸ dlt h
  have hgi : l[i]? = some l[i] := List.getElem?_eq_getElem h
  refine vnf rfl (exf [.str l[i]] (by rw [nth_eq, strsC, List.getElem?_map, hgi]; rfl) ?_)
  refine vci (fun h2 => ?_) (fun h2 => ?_)
  ·have h2 : l[i] = s := of_decide_eq_true h2
   rw [decide_eq_true (h2 ▸ List.getElem_mem h)] at hk
   exact hk
  ·have h2 : l[i] ≠ s := of_decide_eq_false h2
   refine ⟨i + 1, ⟨by omega, ?_⟩, by omega, .same ⟨int_eq (wrap_succ (by omega)), rfl, rfl, trivial⟩ rfl, rfl, rfl⟩
   rw [List.take_add_one, hgi]
   simp only [Option.toList, List.mem_append, List.mem_singleton, not_or]
   exact ⟨hp, fun e => h2 e.symm⟩
 ·have h : l.length <= i := hel ▸ dnlt h
  rw [List.take_of_length_le h] at hp
  rw [decide_eq_false hp] at hk
  exact hk
def kwT : List (List UInt8) -> List UInt8
 | [] => [32]
 | w :: ws => 32 :: (w ++ kwT ws)
theorem isPre_iff (a b : List UInt8) : isPre a b = a.isPrefixOf b := by
 induction a generalizing b with
 | nil => cases b <;> rfl
 | cons x a ih =>
  cases b with
  | nil => rfl
  | cons y b =>
   simp only [isPre, List.isPrefixOf, ih]
   rw [show (x == y) = Nat.beq x.toNat y.toNat from by rw [Bool.eq_iff_iff]; simp only [beq_iff_eq, Nat.beq_eq]; exact UInt8.toNat_inj.symm]
   cases Nat.beq x.toNat y.toNat <;> rfl
theorem pre_word {s w rest : List UInt8} (hs : 32 ∉ s) (hw : 32 ∉ w) : (s ++ [32]).isPrefixOf (w ++ 32 :: rest) = decide (s = w) := by
 induction s generalizing w with
 | nil =>
  cases w with
  | nil => simp [List.isPrefixOf]
  | cons y w =>
   simp only [List.nil_append, List.cons_append, List.isPrefixOf, Bool.and_true]
   have : y ≠ 32 := fun e => hw (by simp [e])
   simp [this.symm]
 | cons x s ih =>
  cases w with
  | nil =>
   simp only [List.cons_append, List.nil_append, List.isPrefixOf]
   have : x ≠ 32 := fun e => hs (by simp [e])
   simp [this]
  | cons y w =>
   simp only [List.cons_append, List.isPrefixOf]
   rw [ih (fun h => hs (by simp [h])) (fun h => hw (by simp [h]))]
   by_cases e : x = y
   ·subst e; simp
   ·simp [e]
theorem sub_skip {p w rest : List UInt8} (hw : 32 ∉ w) (hp : ∃ q, p = 32 :: q) : hasSub p (w ++ rest) = hasSub p rest := by
 induction w with
 | nil => rfl
 | cons y w ih =>
  obtain ⟨q, rfl⟩ := hp
  have hy : y ≠ 32 := fun e => hw (by simp [e])
  have h0 : isPre (32 :: q) (y :: (w ++ rest)) = false := by
   rw [isPre_iff, List.isPrefixOf]
   simp [hy.symm]
  simp only [List.cons_append, hasSub, h0]
  exact ih (fun h => hw (by simp [h]))
theorem kwT_head (ws : List (List UInt8)) : ∃ r, kwT ws = 32 :: r := by
 cases ws with
 | nil => exact ⟨_, rfl⟩
 | cons w ws => exact ⟨_, rfl⟩
theorem sub_words (s : List UInt8) (hs : 32 ∉ s) : ∀ ws : List (List UInt8), (∀ w ∈ ws, 32 ∉ w) -> hasSub (32 :: (s ++ [32])) (kwT ws) = decide (s ∈ ws) := by
 intro ws
 induction ws with
 | nil =>
  intro _
  have h0 : isPre (32 :: (s ++ [32])) [32] = false := by
   rw [isPre_iff]
   cases s <;> simp [List.isPrefixOf]
  simp only [kwT, hasSub, h0]
  simp
 | cons w ws ih =>
  intro hw
  obtain ⟨r, hr⟩ := kwT_head ws
  have hp : isPre (32 :: (s ++ [32])) (32 :: (w ++ kwT ws)) = decide (s = w) := by
   rw [isPre_iff, List.isPrefixOf, hr, pre_word hs (hw w (by simp))]
   simp
  have ih := ih (fun w h => hw w (by simp [h]))
  simp only [kwT, hasSub, hp]
  by_cases e : s = w
  ·simp [e]
  ·simp only [decide_eq_false e]
   rw [sub_skip (hw w (by simp)) ⟨_, rfl⟩, ih]
   simp [e]
theorem isKw_has {s : List UInt8} (hs : s.all isWord = true) : isKw s = decide (s ∈ kwL) := by
 have h32 : 32 ∉ s := fun h => by
  have := List.all_eq_true.1 hs 32 h
  revert this; decide
 have e : kwBytes = kwT kwL := rfl
 unfold isKw
 rw [e]
 exact sub_words s h32 kwL (by decide)
set_option maxHeartbeats 4000000 in
theorem r_isName_spec (s : List UInt8) (hs : s.length < 4294967296) {σ : VS} {K : VCR -> VS -> Prop} (hk : K (.ret (boolV (isName s))) σ) : VCall C intr0 F.modcertref03_IsName [strV s] σ K := by
 refine VCall.b0 nofz (fun _ => rfl) ?_
 refine vci (fun h1 => ?_) (fun h1 => ?_)
 ·repeat refine vcp h1 ?_
  cases s with
  | nil => simp at h1
  | cons c r =>
   refine vci (fun h2 => ?_) (fun h2 => ?_)
   ·have h2' : (c :: r).length <= 32 := dle h2
    refine vcp h2 (vnf rfl (exf c rfl ?_))
    refine vcp h2 (r_small_spec c ?_)
    refine vcp h2 ?_
    refine vci (fun h3 => ?_) (fun h3 => ?_)
    ·refine vcp h3 (r_words_spec (c :: r) (by omega) ?_)
     refine vcp h3 ?_
     refine vci (fun h4 => ?_) (fun h4 => ?_)
     ·have h4w : (c :: r).all isWord = true := h4
      refine r_keywords_spec (fun b => ?_)
      repeat refine vcp h4 ?_
      refine r_has_spec kwL (by decide) (c :: r) b 28 ?_
      rw [<- isKw_has h4w]
      repeat refine vcp h4 ?_
      refine retb_of ?_ hk
      have h4 : (c :: r).all isWord = true := h4
      simp only [isName, decide_eq_true h2', h3, h4, List.head?_cons, Option.any_some]
      simp
     ·repeat refine vcn h4 ?_
      refine retb_of ?_ hk
      have h4 : (c :: r).all isWord = false := h4
      simp [isName, h4]
    ·repeat refine vcn h3 ?_
     refine retb_of ?_ hk
     have h3 : isSmall c = false := h3
     simp [isName, h3]
   ·repeat refine vcn h2 ?_
    refine retb_of ?_ hk
    have h2' : ¬ (c :: r).length <= 32 := Nat.not_le_of_lt (dnle h2)
    simp only [isName, decide_eq_false h2', Bool.and_false, Bool.false_and]
 ·repeat refine vcn h1 ?_
  refine retb_of ?_ hk
  have h1' : s = [] := List.eq_nil_of_length_eq_zero (by have := dnle (a := 1) h1; omega)
  subst h1'
  rfl
set_option maxHeartbeats 4000000 in
theorem r_isType_spec (s : List UInt8) (hs : s.length < 4294967296) {σ : VS} {K : VCR -> VS -> Prop} (hk : K (.ret (boolV (isType s))) σ) : VCall C intr0 F.modcertref03_IsType [strV s] σ K := by
 refine VCall.b0 nofz (fun _ => rfl) ?_
 refine vci (fun h1 => ?_) (fun h1 => ?_)
 ·repeat refine vcp h1 ?_
  cases s with
  | nil => simp at h1
  | cons c r =>
   refine vci (fun h2 => ?_) (fun h2 => ?_)
   ·have h2' : (c :: r).length <= 32 := dle h2
    refine vcp h2 (vnf rfl (exf c rfl ?_))
    refine vcp h2 (r_capital_spec c ?_)
    refine vcp h2 ?_
    refine vci (fun h3 => ?_) (fun h3 => ?_)
    ·refine vcp h3 (r_words_spec (c :: r) (by omega) ?_)
     refine vcp h3 ?_
     refine retb_of ?_ hk
     simp only [isType, decide_eq_true h2', h3, List.head?_cons, Option.any_some]
     simp
    ·repeat refine vcn h3 ?_
     refine retb_of ?_ hk
     have h3 : isCapital c = false := h3
     simp [isType, h3]
   ·repeat refine vcn h2 ?_
    refine retb_of ?_ hk
    have h2' : ¬ (c :: r).length <= 32 := Nat.not_le_of_lt (dnle h2)
    simp only [isType, decide_eq_false h2', Bool.and_false, Bool.false_and]
 ·repeat refine vcn h1 ?_
  refine retb_of ?_ hk
  have h1' : s = [] := List.eq_nil_of_length_eq_zero (by have := dnle (a := 1) h1; omega)
  subst h1'
  rfl
theorem span_stop {p : UInt8 -> Bool} {s : List UInt8} {i : Nat} (hi : i <= s.length) (hp : (s.take i).all p = true) (hs : ∀ (h : i < s.length), p s[i] = false) : spanN p s = i := by
 unfold spanN
 have e : s = s.take i ++ s.drop i := (List.take_append_drop i s).symm
 have h1 : s.takeWhile p = s.take i := by
  conv => lhs; rw [e]
  rw [List.takeWhile_append_of_pos (fun a ha => List.all_eq_true.1 hp a ha)]
  have : (s.drop i).takeWhile p = [] := by
   rcases Nat.lt_or_ge i s.length with h | h
   ·rw [List.drop_eq_getElem_cons h, List.takeWhile_cons, hs h]; rfl
   ·rw [List.drop_of_length_le h]; rfl
  rw [this, List.append_nil]
 rw [h1, List.length_take]
 omega
theorem all_next {p : UInt8 -> Bool} {s : List UInt8} {i : Nat} (h : i < s.length) (hp : (s.take i).all p = true) (h2 : p s[i] = true) : (s.take (i + 1)).all p = true := by
 rw [List.take_add_one, List.getElem?_eq_getElem h]
 simp only [List.all_append, hp, Option.toList, List.all_cons, List.all_nil, Bool.and_true, Bool.true_and, h2]
set_option maxHeartbeats 4000000 in
theorem r_span_digits (s : List UInt8) (hs : s.length < 4294967296) {σ : VS} {K : VCR -> VS -> Prop} (hk : K (.ret (intV (spanN isDigit s))) σ) : VCall C intr0 F.modcertref03_span [strV s, boolV true] σ K := by
 refine VCall.b0 nofz (fun _ => rfl) ?_
 refine VCode.less (tm0 := [(5, intV 0), (0, strV s), (1, boolV true)]) ⟨rfl, rfl, rfl, trivial⟩ ?_
 refine VCode.iter (fun i : Nat => [(5, intV i), (0, strV s), (1, boolV true)]) (fun _ => σ) (fun i => s.length - i) (fun i => i <= s.length /\ (s.take i).all isDigit = true) ?_ 0 ⟨by omega, by simp⟩
 rintro i ⟨hi, hp⟩
 refine vci (fun hc => ?_) (fun hc => ?_)
 ·have h : i < s.length := dlt hc
  repeat refine vcp hc ?_
  refine vnf rfl (exf s[i] (by rw [nth_eq]; exact List.getElem?_eq_getElem h) ?_)
  repeat refine vcp hc ?_
  refine r_digit_spec s[i] ?_
  repeat refine vcp hc ?_
  refine vci (fun h2 => ?_) (fun h2 => ?_)
  ·repeat first | refine vcp h2 ?_ | refine vcp hc ?_
   exact ⟨i + 1, ⟨by omega, all_next h hp h2⟩, by omega, .same ⟨int_eq (wrap_succ (by omega)), rfl, rfl, trivial⟩ rfl, rfl, rfl⟩
  ·repeat first | refine vcn h2 ?_ | refine vcp hc ?_
   refine reti_of ?_ hk
   rw [span_stop hi hp (fun _ => h2)]
 ·have h : s.length <= i := dnlt hc
  repeat refine vcn hc ?_
  refine reti_of ?_ hk
  rw [span_stop hi hp (fun h' => by omega)]
theorem word_digit {c : UInt8} (h : isDigit c = true) : isWord c = true := by simp [isWord, h]
set_option maxHeartbeats 4000000 in
theorem r_span_words (s : List UInt8) (hs : s.length < 4294967296) {σ : VS} {K : VCR -> VS -> Prop} (hk : K (.ret (intV (spanN isWord s))) σ) : VCall C intr0 F.modcertref03_span [strV s, boolV false] σ K := by
 refine VCall.b0 nofz (fun _ => rfl) ?_
 refine VCode.less (tm0 := [(5, intV 0), (0, strV s), (1, boolV false)]) ⟨rfl, rfl, rfl, trivial⟩ ?_
 refine VCode.iter (fun i : Nat => [(5, intV i), (0, strV s), (1, boolV false)]) (fun _ => σ) (fun i => s.length - i) (fun i => i <= s.length /\ (s.take i).all isWord = true) ?_ 0 ⟨by omega, by simp⟩
 rintro i ⟨hi, hp⟩
 refine vci (fun hc => ?_) (fun hc => ?_)
 ·have h : i < s.length := dlt hc
  repeat refine vcp hc ?_
  refine vnf rfl (exf s[i] (by rw [nth_eq]; exact List.getElem?_eq_getElem h) ?_)
  repeat refine vcp hc ?_
  refine r_digit_spec s[i] ?_
  repeat refine vcp hc ?_
  refine vci (fun h2 => ?_) (fun h2 => ?_)
  ·repeat first | refine vcp h2 ?_ | refine vcp hc ?_
   exact ⟨i + 1, ⟨by omega, all_next h hp (word_digit h2)⟩, by omega, .same ⟨int_eq (wrap_succ (by omega)), rfl, rfl, trivial⟩ rfl, rfl, rfl⟩
  ·repeat first | refine vcn h2 ?_ | refine vcp hc ?_
   refine vnf rfl (exf s[i] (by rw [nth_eq]; exact List.getElem?_eq_getElem h) ?_)
   repeat first | refine vcn h2 ?_ | refine vcp hc ?_
   refine r_word_spec s[i] ?_
   repeat first | refine vcn h2 ?_ | refine vcp hc ?_
   refine vci (fun h3 => ?_) (fun h3 => ?_)
   ·repeat first | refine vcn h2 ?_ | refine vcp hc ?_ | refine vcp h3 ?_
    exact ⟨i + 1, ⟨by omega, all_next h hp h3⟩, by omega, .same ⟨int_eq (wrap_succ (by omega)), rfl, rfl, trivial⟩ rfl, rfl, rfl⟩
   ·repeat first | refine vcn h2 ?_ | refine vcp hc ?_ | refine vcn h3 ?_
    refine reti_of ?_ hk
    rw [span_stop hi hp (fun _ => h3)]
 ·have h : s.length <= i := dnlt hc
  repeat refine vcn hc ?_
  refine reti_of ?_ hk
  rw [span_stop hi hp (fun h' => by omega)]
theorem bT {c d : UInt8} (h : decide (Int.ofNat c.toNat = Int.ofNat d.toNat) = true) : c = d := UInt8.toNat_inj.1 (deq h)
theorem bF {c d : UInt8} (h : decide (Int.ofNat c.toNat = Int.ofNat d.toNat) = false) : c ≠ d := fun e => dneq h (by rw [e])
theorem nbT {c d : UInt8} (h : (!decide (Int.ofNat c.toNat = Int.ofNat d.toNat)) = true) : c ≠ d := bF (by simpa using h)
theorem nbF {c d : UInt8} (h : (!decide (Int.ofNat c.toNat = Int.ofNat d.toNat)) = false) : c = d := bT (by simpa using h)
theorem bool_eq {a b : Bool} (h : a = b) : some (boolV a) = some (boolV b) := by rw [h]
theorem wrap_add1 {a b : Nat} (h : a + b < 9223372036854775806) : IntKind.i64.wrap (IntKind.i64.wrap (Int.ofNat a + Int.ofNat b) + 1) = Int.ofNat (a + b + 1) := by
 rw [wrap_add (by omega), wrap_succ (by omega)]
theorem skip_cc (t : List UInt8) : skipF false (47 :: 47 :: t) = 1 + skipF true (47 :: t) := rfl
def skS (s : List UInt8) (at0 : Nat) (x : Bool × Nat) : Tm := [(0, strV s), (1, intV at0), (5, boolV x.1), (6, intV x.2)]
theorem sk_next {s : List UInt8} {at0 n : Nat} {cm' : Bool} {v : V} {tm : Tm} (hn : n < 4294967296) (h5 : vlook tm 5 = some v) (hv : v = boolV cm') (h0 : vlook tm 0 = some (strV s)) (h1 : vlook tm 1 = some (intV at0)) (h6 : vlook tm 6 = some (.d (.int .i64 (IntKind.i64.wrap (Int.ofNat n + 1))))) : subTm (skS s at0 (cm', n + 1)) tm :=
 ⟨h0, h1, by rw [h5, hv], by rw [h6, wrap_succ (by omega)]; rfl, trivial⟩
set_option maxHeartbeats 2000000 in
theorem r_skip_spec (s : List UInt8) (at0 : Nat) (h0 : at0 <= s.length) (hs : s.length < 4294967296) {σ : VS} {K : VCR -> VS -> Prop} (hk : K (.ret (intV (skipF false (s.drop at0)))) σ) : VCall C intr0 F.modcertref03_skip [strV s, intV at0] σ K := by
 refine VCall.b0 nofz (fun _ => rfl) ?_
 refine VCode.less (tm0 := skS s at0 (false, 0)) ⟨rfl, rfl, rfl, rfl, trivial⟩ ?_
 refine VCode.iter (skS s at0) (fun _ => σ) (fun x => s.length - x.2) (fun x => at0 + x.2 <= s.length /\ skipF false (s.drop at0) = x.2 + skipF x.1 (s.drop (at0 + x.2))) ?_ (false, 0) ⟨h0, by simp⟩
 rintro ⟨cm, n⟩ ⟨hn, he⟩
 have hn : at0 + n <= s.length := hn
 have he : skipF false (s.drop at0) = n + skipF cm (s.drop (at0 + n)) := he
 refine vci (fun hc => ?_) (fun hc => ?_)
 ·rw [wrap_add (by omega)] at hc
  have h : at0 + n < s.length := dlt hc
  have hd : s.drop (at0 + n) = s[at0 + n] :: s.drop (at0 + n + 1) := List.drop_eq_getElem_cons h
  have hw := wrap_add (a := at0) (b := n) (by omega)
  refine vnf hw (exf s[at0 + n] (by rw [nth_eq]; exact List.getElem?_eq_getElem h) ?_)
  generalize s[at0 + n] = c at hd
  cases cm with
  | true =>
   refine ⟨(decide (c ≠ 10), n + 1), ⟨by show at0 + (n + 1) <= s.length; omega, ?_⟩, by show s.length - (n + 1) < s.length - n; omega, .same (sk_next (by omega) rfl ?_ rfl rfl rfl) rfl, rfl, rfl⟩
   ·show skipF false (s.drop at0) = n + 1 + skipF (decide (c ≠ 10)) (s.drop (at0 + n + 1))
    rw [he, hd, skipF]; omega
   ·show boolV (!decide (Int.ofNat c.toNat = 10)) = boolV (decide (c ≠ 10))
    congr 1
    by_cases e : c = 10
    ·subst e; rfl
    ·rw [decide_eq_true e, Bool.not_eq_true', decide_eq_false_iff_not]
     intro h'
     exact e (bT (d := 10) (decide_eq_true h'))
  | false =>
   have hw1 := wrap_add1 (a := at0) (b := n) (by omega)
   refine vci (fun h47 => ?_) (fun h47 => ?_)
   ·have e47 := bT (d := 47) h47
    subst e47
    repeat refine vcp h47 ?_
    refine vci (fun hc2 => ?_) (fun hc2 => ?_)
    ·have hc3 := hc2
     rw [hw1] at hc3
     have h2 : at0 + n + 1 < s.length := dlt hc3
     have hd2 : s.drop (at0 + n + 1) = s[at0 + n + 1] :: s.drop (at0 + n + 1 + 1) := List.drop_eq_getElem_cons h2
     repeat first | refine vcp hc2 ?_ | refine vcp h47 ?_
     refine vnf hw1 (exf s[at0 + n + 1] (by rw [nth_eq]; exact List.getElem?_eq_getElem h2) ?_)
     generalize s[at0 + n + 1] = c2 at hd2
     repeat first | refine vcp hc2 ?_ | refine vcp h47 ?_
     refine vci (fun h47b => ?_) (fun h47b => ?_)
     ·have e47 := bT (d := 47) h47b
      subst e47
      repeat first | refine vcp h47b ?_
      refine ⟨(true, n + 1), ⟨by show at0 + (n + 1) <= s.length; omega, ?_⟩, by show s.length - (n + 1) < s.length - n; omega, .same (sk_next (by omega) rfl rfl rfl rfl rfl) rfl, rfl, rfl⟩
      show skipF false (s.drop at0) = n + 1 + skipF true (s.drop (at0 + n + 1))
      rw [he, hd, hd2, skip_cc]
      omega
     ·have e47 := bF (d := 47) h47b
      repeat first | refine vcn h47b ?_
      refine reti_of ?_ hk
      rw [he, hd, hd2, skipF, if_neg (by rintro ⟨_, h⟩; simp at h; exact e47 h), if_neg (by decide)]
      rfl
    ·have hc3 := hc2
     rw [hw1] at hc3
     have h2 : s.length <= at0 + n + 1 := dnlt hc3
     repeat first | refine vcn hc2 ?_ | refine vcp h47 ?_
     refine reti_of ?_ hk
     rw [he, hd, List.drop_of_length_le h2, skipF, if_neg (by rintro ⟨_, h⟩; simp at h), if_neg (by decide)]
     rfl
   ·have e47 := bF (d := 47) h47
    repeat refine vcn h47 ?_
    have n47 : ¬ (c = 47 /\ (s.drop (at0 + n + 1)).head? = some 47) := fun h => e47 h.1
    refine vci (fun h32 => ?_) (fun h32 => ?_)
    ·have e32 := nbT (d := 32) h32
     repeat refine vcp h32 ?_
     refine vci (fun h9 => ?_) (fun h9 => ?_)
     ·have e9 := nbT (d := 9) h9
      repeat first | refine vcp h32 ?_ | refine vcp h9 ?_
      refine vci (fun h10 => ?_) (fun h10 => ?_)
      ·have e10 := nbT (d := 10) h10
       repeat first | refine vcp h9 ?_ | refine vcp h10 ?_
       refine vci (fun h13 => ?_) (fun h13 => ?_)
       ·have e13 := nbT (d := 13) h13
        repeat first | refine vcp h13 ?_ | refine vcp h10 ?_
        refine reti_of ?_ hk
        rw [he, hd, skipF, if_neg n47, if_neg (by rintro (h | h | h | h); exact e32 h; exact e9 h; exact e10 h; exact e13 h)]
        rfl
       ·have e13 := nbF (d := 13) h13
        repeat first | refine vcn h13 ?_ | refine vcp h10 ?_
        exact ⟨(false, n + 1), ⟨by show at0 + (n + 1) <= s.length; omega, by show _ = n + 1 + skipF false (s.drop (at0 + n + 1)); rw [he, hd, skipF_blank (.inr (.inr (.inr e13)))]; omega⟩, by show s.length - (n + 1) < s.length - n; omega, .same (sk_next (by omega) rfl rfl rfl rfl rfl) rfl, rfl, rfl⟩
      ·have e10 := nbF (d := 10) h10
       repeat first | refine vcn h10 ?_ | refine vcp h9 ?_
       exact ⟨(false, n + 1), ⟨by show at0 + (n + 1) <= s.length; omega, by show _ = n + 1 + skipF false (s.drop (at0 + n + 1)); rw [he, hd, skipF_blank (.inr (.inr (.inl e10)))]; omega⟩, by show s.length - (n + 1) < s.length - n; omega, .same (sk_next (by omega) rfl rfl rfl rfl rfl) rfl, rfl, rfl⟩
     ·have e9 := nbF (d := 9) h9
      repeat first | refine vcn h9 ?_ | refine vcp h32 ?_
      exact ⟨(false, n + 1), ⟨by show at0 + (n + 1) <= s.length; omega, by show _ = n + 1 + skipF false (s.drop (at0 + n + 1)); rw [he, hd, skipF_blank (.inr (.inl e9))]; omega⟩, by show s.length - (n + 1) < s.length - n; omega, .same (sk_next (by omega) rfl rfl rfl rfl rfl) rfl, rfl, rfl⟩
    ·have e32 := nbF (d := 32) h32
     repeat refine vcn h32 ?_
     exact ⟨(false, n + 1), ⟨by show at0 + (n + 1) <= s.length; omega, by show _ = n + 1 + skipF false (s.drop (at0 + n + 1)); rw [he, hd, skipF_blank (.inl e32)]; omega⟩, by show s.length - (n + 1) < s.length - n; omega, .same (sk_next (by omega) rfl rfl rfl rfl rfl) rfl, rfl, rfl⟩
 ·rw [wrap_add (by omega)] at hc
  have h : s.length <= at0 + n := dnlt hc
  refine reti_of ?_ hk
  rw [he, List.drop_of_length_le h]
  simp [skipF]
def hexF : List UInt8 -> UInt8 × Nat
 | h :: l :: _ => match hexN h, hexN l with
  | some a, some b => (UInt8.ofNat (16 * a + b), 4)
  | _, _ => (0, 0)
 | _ => (0, 0)
def escF : List UInt8 -> UInt8 × Nat
 | [] => (0, 0)
 | e :: r2 => if e = 34 ∨ e = 92 then (e, 2) else if e = 110 then (10, 2) else if e = 120 then hexF r2 else (0, 0)
def chrF : List UInt8 -> UInt8 × Nat
 | [] => (0, 0)
 | c :: r => if c < 32 ∨ c = 34 then (0, 0) else if c ≠ 92 then (c, 1) else escF r
def chrV (x : UInt8 × Nat) : V := .tup [byteV x.1, intV x.2]
theorem litF_chr : ∀ l : List UInt8, litF l = match l with
  | [] => none
  | c :: _ => if c = 34 then some ([], 1) else match chrF l with
   | (_, 0) => none
   | (b, n + 1) => (litF (l.drop (n + 1))).map fun x => (b :: x.1, x.2 + (n + 1)) := by
 intro l
 cases l with
 | nil => rw [litF.eq_def]
 | cons c r =>
  by_cases h34 : c = 34
  ·subst h34; rw [litF_quote]; rfl
  ·dsimp only
   rw [if_neg h34]
   by_cases h32 : c < 32
   ·rw [litF_low h34 h32, chrF, if_pos (.inl h32)]
   ·have hno : ¬ (c < 32 ∨ c = 34) := by rintro (h | h); exact h32 h; exact h34 h
    by_cases h92 : c ≠ 92
    ·rw [litF_plain h34 h32 h92, chrF, if_neg hno, if_pos h92]
     rfl
    ·have h92 : c = 92 := by simpa using h92
     subst h92
     rw [litF_esc, chrF, if_neg hno, if_neg (by simp)]
     cases r with
     | nil => rfl
     | cons e r2 =>
      rw [escF]
      dsimp only
      by_cases h1 : e = 34 ∨ e = 92
      ·rw [if_pos h1, if_pos h1]; rfl
      ·rw [if_neg h1, if_neg h1]
       by_cases h2 : e = 110
       ·rw [if_pos h2, if_pos h2]; rfl
       ·rw [if_neg h2, if_neg h2]
        by_cases h3 : e = 120
        ·rw [if_pos h3, if_pos h3]
         cases r2 with
         | nil => rfl
         | cons h r3 =>
          cases r3 with
          | nil => rfl
          | cons l r4 =>
           rw [hexF]
           dsimp only
           cases hexN h with
           | none => rfl
           | some a =>
            cases hexN l with
            | none => rfl
            | some b => rfl
        ·rw [if_neg h3, if_neg h3]
theorem hexI_pos {c : UInt8} (h : decide (0 <= hexI c) = true) : ∃ a, hexN c = some a /\ hexI c = Int.ofNat a := by
 unfold hexI at h ⊢
 cases hc : hexN c with
 | some a => exact ⟨a, rfl, rfl⟩
 | none => rw [hc] at h; exact absurd h (by decide)
theorem hexI_neg {c : UInt8} (h : decide (0 <= hexI c) = false) : hexN c = none := by
 unfold hexI at h
 cases hc : hexN c with
 | some a => rw [hc] at h; exact absurd (by simp : decide ((0 : Int) <= Int.ofNat a) = true) (by rw [h]; decide)
 | none => rfl
theorem lt32 {c : UInt8} {b : Bool} (h : decide (Int.ofNat c.toNat < 32) = b) : decide (c < 32) = b := by
 rw [<- h]
 exact decide_eq_decide.2 ⟨fun h => by have : c.toNat < 32 := h; simp only [Int.ofNat_eq_natCast]; omega, fun h => by show c.toNat < 32; simp only [Int.ofNat_eq_natCast] at h; omega⟩
theorem hex_wrap {a b : Nat} (ha : a < 16) (hb : b < 16) : IntKind.u8.wrap (IntKind.i64.wrap (IntKind.i64.wrap (16 * Int.ofNat a) + Int.ofNat b)) = Int.ofNat (UInt8.ofNat (16 * a + b)).toNat := by
 simp only [Int.ofNat_eq_natCast]
 rw [wrap64 (n := 16 * (a : Int)) (by omega) (by omega), wrap64 (by omega) (by omega), wrap8 (by omega) (by omega)]
 rw [UInt8.toNat_ofNat', Nat.mod_eq_of_lt (by omega)]
 omega
theorem ret2_of {K : VCR -> VS -> Prop} {v w : V} {σ : VS} (hk : K (.ret w) σ) (e : v = w) : K (.ret v) σ := e ▸ hk
set_option maxHeartbeats 4000000 in
theorem r_character_spec (s : List UInt8) (hs : s.length < 4294967296) {σ : VS} {K : VCR -> VS -> Prop} (hk : K (.ret (chrV (chrF s))) σ) : VCall C intr0 F.modcertref03_character [strV s] σ K := by
 refine VCall.b0 nofz (fun _ => rfl) ?_
 cases s with
 | nil => exact hk
 | cons c r =>
  have hne : decide ((c :: r) = ([] : List UInt8)) = false := by simp
  repeat refine vcn hne ?_
  refine vnf rfl (exf c rfl ?_)
  repeat refine vcn hne ?_
  refine vci (fun h32 => ?_) (fun h32 => ?_)
  ·have e32 : c < 32 := of_decide_eq_true (lt32 h32)
   repeat refine vcp h32 ?_
   refine ret2_of hk ?_
   rw [chrF, if_pos (.inl e32)]; rfl
  ·have e32 : ¬ c < 32 := of_decide_eq_false (lt32 h32)
   repeat refine vcn h32 ?_
   refine vnf rfl (exf c rfl ?_)
   repeat refine vcn h32 ?_
   refine vci (fun h34 => ?_) (fun h34 => ?_)
   ·have e34 := bT (d := 34) h34
    repeat refine vcp h34 ?_
    refine ret2_of hk ?_
    rw [chrF, if_pos (.inr e34)]; rfl
   ·have e34 := bF (d := 34) h34
    have hno : ¬ (c < 32 ∨ c = 34) := by rintro (h | h); exact e32 h; exact e34 h
    repeat refine vcn h34 ?_
    refine vnf rfl (exf c rfl ?_)
    refine vci (fun h92 => ?_) (fun h92 => ?_)
    ·have e92 := nbT (d := 92) h92
     refine vnf rfl (exf c rfl ?_)
     refine ret2_of hk ?_
     rw [chrF, if_neg hno, if_pos e92]; rfl
    ·have e92 := nbF (d := 92) h92
     rw [chrF, if_neg hno, if_neg (by simpa using e92)] at hk
     cases r with
     | nil => exact hk
     | cons e r2 =>
      refine vnf rfl (exf e rfl ?_)
      rw [escF] at hk
      refine vci (fun h34 => ?_) (fun h34 => ?_)
      ·have e34 := bT (d := 34) h34
       repeat refine vcp h34 ?_
       refine vnf rfl (exf e rfl ?_)
       rw [if_pos (.inl e34)] at hk
       exact hk
      ·have e34 := bF (d := 34) h34
       repeat refine vcn h34 ?_
       refine vnf rfl (exf e rfl ?_)
       repeat refine vcn h34 ?_
       refine vci (fun h92 => ?_) (fun h92 => ?_)
       ·have e92 := bT (d := 92) h92
        repeat refine vcp h92 ?_
        refine vnf rfl (exf e rfl ?_)
        rw [if_pos (.inr e92)] at hk
        exact hk
       ·have e92 := bF (d := 92) h92
        repeat refine vcn h92 ?_
        refine vnf rfl (exf e rfl ?_)
        rw [if_neg (by rintro (h | h); exact e34 h; exact e92 h)] at hk
        refine vci (fun h110 => ?_) (fun h110 => ?_)
        ·have e110 := bT (d := 110) h110
         rw [if_pos e110] at hk
         exact hk
        ·have e110 := bF (d := 110) h110
         rw [if_neg e110] at hk
         refine vnf rfl (exf e rfl ?_)
         refine vci (fun h120 => ?_) (fun h120 => ?_)
         ·have e120 := bT (d := 120) h120
          rw [if_pos e120] at hk
          repeat refine vcp h120 ?_
          cases r2 with
          | nil => exact hk
          | cons h r3 =>
           cases r3 with
           | nil => exact hk
           | cons l r4 =>
            have hl4 : decide (4 <= Int.ofNat (c :: e :: h :: l :: r4).length) = true := decide_eq_true (by simp only [List.length_cons, Int.ofNat_eq_natCast]; omega)
            rw [hexF] at hk
            repeat first | refine vcp hl4 ?_ | refine vcp h120 ?_
            refine vnf rfl (exf h rfl ?_)
            repeat refine vcp hl4 ?_
            refine r_hex_spec h ?_
            repeat refine vcp hl4 ?_
            refine vci (fun hh => ?_) (fun hh => ?_)
            ·obtain ⟨a, ha, hia⟩ := hexI_pos hh
             repeat first | refine vcp hl4 ?_ | refine vcp hh ?_
             refine vnf rfl (exf l rfl ?_)
             repeat first | refine vcp hl4 ?_ | refine vcp hh ?_
             refine r_hex_spec l ?_
             repeat first | refine vcp hl4 ?_ | refine vcp hh ?_
             refine vci (fun hh2 => ?_) (fun hh2 => ?_)
             ·obtain ⟨b, hb, hib⟩ := hexI_pos hh2
              repeat first | refine vcp hl4 ?_ | refine vcp hh ?_ | refine vcp hh2 ?_
              rw [ha, hb] at hk
              repeat first
               | refine vnf rfl (exf h rfl ?_)
               | refine vnf rfl (exf l rfl ?_)
               | refine r_hex_spec h ?_
               | refine r_hex_spec l ?_
               | refine vni (by repeat' (first | exact trivial | exact rfl | refine vnf rfl (exf h rfl ?_) | refine vnf rfl (exf l rfl ?_) | refine And.intro ?_ ?_)) ?_
              refine ret2_of hk ?_
              show V.tup [V.d (.int .u8 (IntKind.u8.wrap (IntKind.i64.wrap (IntKind.i64.wrap (16 * hexI h) + hexI l)))), intV 4] = _
              rw [hia, hib, hex_wrap (hexN_lt ha) (hexN_lt hb)]
              rfl
             ·have hb := hexI_neg hh2
              repeat first | refine vcn hh2 ?_ | refine vcp hl4 ?_ | refine vcp hh ?_
              rw [ha, hb] at hk
              exact hk
            ·have ha := hexI_neg hh
             repeat first | refine vcn hh ?_ | refine vcp hl4 ?_
             rw [ha] at hk
             exact hk
         ·have e120 := bF (d := 120) h120
          rw [if_neg e120] at hk
          repeat refine vcn h120 ?_
          exact hk
def tok0 : List V := [.d (.int .i64 0), .d (.str []), .d (.int .i64 0)]
def txS (acc : List UInt8) : VS := [.box tok0, bytesRow acc]
def txT (s : List UInt8) (x : Nat × List UInt8) : Tm := [(0, strV s), (2, .bp 0 0), (5, .ms 1 1 0 x.2.length x.2.length), (6, intV x.1)]
def textR (x : Option (List UInt8 × Nat)) : V := match x with
 | some (b, n) => .tup [tokV 4 b 0, intV (n + 1), intV 0]
 | none => .tup [tokV 0 [] 0, intV 0, intV 3]
def txfz : Nat -> Bool := fun t => Nat.beq t 32
theorem tx_fit {c i n : Nat} (h : c <= i) (h' : i < 4294967296) (hn : n = 1 := by rfl) : (c + n) * 1 <= limit /\ c + n <= limit := by
 unfold limit
 omega
theorem tx_out (acc : List UInt8) (b : UInt8) : some (V.ms 2 1 0 (acc.length + 1) (acc.length + 1)) = some (V.ms 2 1 0 (acc ++ [b]).length (acc ++ [b]).length) := by simp
theorem tx_grow {π : Nat -> Nat} (acc : List UInt8) (b : UInt8) : some (VObj.row 1 (((acc.map fun c => [byteV c]).drop 0).take acc.length ++ [[byteV b]])) = some (renO π (bytesRow (acc ++ [b]))) := by
 rw [renO_bytes, bytesRow, List.map_append, List.drop_zero, List.take_of_length_le (by simp)]
 rfl
theorem chrF_le : ∀ l : List UInt8, (chrF l).2 <= l.length := by
 intro l
 cases l with
 | nil => exact Nat.le_refl _
 | cons c r =>
  rw [chrF]
  split
  ·simp
  ·split
   ·simp
   ·cases r with
    | nil => simp [escF]
    | cons e r2 =>
     rw [escF]
     split
     ·simp
     ·split
      ·simp
      ·split
       ·cases r2 with
        | nil => simp [hexF]
        | cons h r3 =>
         cases r3 with
         | nil => simp [hexF]
         | cons l r4 =>
          rw [hexF]
          cases hexN h <;> cases hexN l <;> simp
       ·simp
set_option maxHeartbeats 4000000 in
theorem r_text_spec0 (s : List UInt8) (h0 : 0 < s.length) (hs : s.length < 4294967296) : VCall C intr0 F.modcertref03_text [strV s] [] fun r σ' => σ' = [] /\ r = .ret (textR (litF (s.drop 1))) := by
 refine VCall.b1 txfz (fun _ => rfl) ?_
 refine VCode.less (tm0 := txT s (1, [])) ⟨rfl, rfl, rfl, rfl, trivial⟩ ?_
 refine VCode.iter (txT s) (fun x => txS x.2) (fun x => s.length - x.1)
  (fun x => 1 <= x.1 /\ x.1 <= s.length /\ x.2.length <= x.1 /\ litF (s.drop 1) = (litF (s.drop x.1)).map fun y => (x.2 ++ y.1, y.2 + (x.1 - 1))) ?_ (1, []) ⟨Nat.le_refl _, h0, Nat.zero_le _, by simp⟩
 rintro ⟨i, acc⟩ ⟨hi1, hi, hal, hp⟩
 have hi1 : 1 <= i := hi1
 have hi : i <= s.length := hi
 have hal : acc.length <= i := hal
 have hp : litF (s.drop 1) = (litF (s.drop i)).map fun y => (acc ++ y.1, y.2 + (i - 1)) := hp
 refine vci (fun hc => ?_) (fun hc => ?_)
 ·have h : i < s.length := dlt hc
  have hd : s.drop i = s[i] :: s.drop (i + 1) := List.drop_eq_getElem_cons h
  repeat refine vcp hc ?_
  refine vnf rfl (exf s[i] (by rw [nth_eq]; exact List.getElem?_eq_getElem h) ?_)
  generalize s[i] = c at hd
  repeat refine vcp hc ?_
  refine vci (fun h34 => ?_) (fun h34 => ?_)
  ·have e34 := nbT (d := 34) h34
   repeat first | refine vcp h34 ?_ | refine vcp hc ?_
   refine vnf rfl (vni ⟨hi, Nat.le_refl _⟩ ?_)
   refine r_character_spec _ (by rw [List.length_drop, List.length_take]; omega) ?_
   rw [List.take_length]
   have hl := litF_chr (s.drop i)
   rw [hd] at hl
   simp only [if_neg e34] at hl
   rw [<- hd] at hl
   have hle := chrF_le (s.drop i)
   rw [List.length_drop] at hle
   generalize chrF (s.drop i) = x at hl hle
   obtain ⟨b, n⟩ := x
   cases n with
   | zero =>
    have hl : litF (s.drop i) = none := hl
    refine VUpd.drop 0 ?_ ?_ ?_ ?_
    iterate 3 exact rfl
    refine VUpd.now rfl ⟨rfl, ?_⟩
    rw [hp, hl]
    rfl
   | succ n =>
    have hl : litF (s.drop i) = (litF (s.drop (i + (n + 1)))).map fun x => (b :: x.1, x.2 + (n + 1)) := by dsimp only at hl; rw [List.drop_drop] at hl; exact hl
    have hle : n + 1 <= s.length - i := hle
    intro b3
    refine vni rfl (vni ⟨rfl, rfl, by simp, Nat.le_refl _, tx_fit hal (by omega)⟩ ?_)
    refine vcn rfl (vcn (lit_full acc.length) ?_)
    refine ⟨(i + (n + 1), acc ++ [b]), ⟨by show 1 <= i + (n + 1); omega, by show i + (n + 1) <= s.length; omega, by show (acc ++ [b]).length <= i + (n + 1); simp; omega, ?_⟩, by show s.length - (i + (n + 1)) < s.length - i; omega, ?_, rfl, rfl⟩
    ·show litF (s.drop 1) = (litF (s.drop (i + (n + 1)))).map fun y => ((acc ++ [b]) ++ y.1, y.2 + (i + (n + 1) - 1))
     rw [hp, hl, Option.map_map]
     congr 1
     funext y
     simp only [Function.comp, List.append_assoc, List.cons_append, List.nil_append]
     rw [show y.2 + (n + 1) + (i - 1) = y.2 + (i + (n + 1) - 1) from by omega]
    ·exact .pick 1 [0, 2] ⟨rfl, rfl, tx_out acc b, int_eq (wrap_add (by omega)), trivial⟩ rfl rfl rfl rfl rfl (by decide) ⟨rfl, rfl, tx_grow acc b, bd_bytes _ _, trivial⟩
  ·have e34 := nbF (d := 34) h34
   subst e34
   repeat first | refine vcn h34 ?_ | refine vcp hc ?_
   refine vcn (decide_eq_false (by simp only [Int.ofNat_eq_natCast]; omega)) ?_
   refine ex6_of acc rfl rfl (take_self _ _ (by simp)) (by simp) ?_
   refine VUpd.drop 0 ?_ ?_ ?_ ?_
   iterate 3 exact rfl
   refine VUpd.now rfl ⟨rfl, ?_⟩
   rw [hp, hd, litF_quote]
   show VCR.ret (.tup [tokV 4 acc 0, .d (.int .i64 (IntKind.i64.wrap (Int.ofNat i + 1))), intV 0]) = VCR.ret (.tup [tokV 4 (acc ++ []) 0, intV (1 + (i - 1) + 1), intV 0])
   rw [wrap_succ (by omega), List.append_nil, show 1 + (i - 1) + 1 = i + 1 from by omega]
   rfl
 ·have h : s.length <= i := dnlt hc
  repeat refine vcn hc ?_
  refine vcp (decide_eq_true (by simp only [Int.ofNat_eq_natCast]; omega)) ?_
  refine VUpd.drop 0 ?_ ?_ ?_ ?_
  iterate 3 exact rfl
  refine VUpd.now rfl ⟨rfl, ?_⟩
  rw [hp, List.drop_of_length_le h]
  rw [show litF [] = none from by rw [litF.eq_def]]
  rfl
end Go.Proofs.YtifncjhjnjldmaaGreatDoor
