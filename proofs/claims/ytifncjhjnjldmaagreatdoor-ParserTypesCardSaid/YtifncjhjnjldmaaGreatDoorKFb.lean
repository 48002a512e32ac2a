/- Contracts of the reference's lexer, part two. -/
import Derived.Test.YtifncjhjnjldmaaGreatDoorKFa
namespace Go.Proofs.YtifncjhjnjldmaaGreatDoor set_option linter.unusedSimpArgs false set_option linter.unusedVariables false
open Go.AM Go.VM
theorem r_text_spec (s : List UInt8) (h0 : 0 < s.length) (hs : s.length < 4294967296) {σ : VS} {K : VCR -> VS -> Prop} (hk : K (.ret (textR (litF (s.drop 1)))) σ) : VCall C intr0 F.modcertref03_text [strV s] σ K := by
 refine VCall.pure (r_text_spec0 s h0 hs) rfl ?_ hk
 cases litF (s.drop 1) with
 | none => rfl
 | some x => rfl
def symsL : List (List UInt8) := [[61, 61, 61], [58, 58], [62, 58], [60, 58], [61, 62], [61, 61], [43, 43], [40], [41], [91], [93], [123], [125], [60], [62], [44], [58], [61], [46], [43], [45], [42], [124], [63], [47]]
def sylfz : Nat -> Bool := fun t => Nat.beq t 1
theorem r_symbols_spec {σ : VS} {K : VCR -> VS -> Prop} (hk : ∀ b, K (.ret (.d (.ps b 0 1 25 (strsC symsL)))) σ) : VCall C intr0 F.modcertref03_Symbols [] σ K := by
 refine VCall.b0 sylfz (fun _ => rfl) ?_
 intro b
 exact hk b
theorem idx_mem (l : List UInt8) (c : UInt8) : ∀ off, decide (0 <= indexByte l c.toNat off) = decide (c ∈ l) := by
 induction l with
 | nil => intro off; rfl
 | cons x l ih =>
  intro off
  simp only [indexByte]
  by_cases e : x = c
  ·subst e
   simp [Nat.beq_refl]
  ·have : Nat.beq x.toNat c.toNat = false := by
    rw [Bool.eq_false_iff]; intro h; exact e (UInt8.toNat_inj.1 (Nat.eq_of_beq_eq_true h))
   simp only [this]
   rw [ih]
   simp [Ne.symm e]
theorem find_single (c : UInt8) (r : List UInt8) : ∀ l : List UInt8, (l.map fun x => [x]).find? (hasPre (c :: r)) = if c ∈ l then some [c] else none := by
 intro l
 induction l with
 | nil => rfl
 | cons x l ih =>
  simp only [List.map_cons, List.find?_cons]
  have hx : hasPre (c :: r) [x] = decide (x = c) := by
   simp only [hasPre, List.isPrefixOf, Bool.and_true]
   rw [Bool.eq_iff_iff]
   simp
  rw [hx]
  by_cases e : x = c
  ·subst e; simp
  ·simp only [decide_eq_false e, ih, List.mem_cons, Ne.symm e, false_or]
theorem symOf_find (c : UInt8) (r : List UInt8) : symOf (c :: r) = (symsL.find? (hasPre (c :: r))).getD [] := by
 have e : symsL = syms7 ++ singles.map fun x => [x] := rfl
 rw [e, List.find?_append, find_single]
 unfold symOf
 cases syms7.find? (hasPre (c :: r)) with
 | some x => rfl
 | none =>
  dsimp only
  have := idx_mem singles c 0
  by_cases h : c ∈ singles
  ·rw [decide_eq_true h] at this
   rw [if_pos (of_decide_eq_true this), if_pos h]; rfl
  ·rw [decide_eq_false h] at this
   rw [if_neg (of_decide_eq_false this), if_neg h]; rfl
def tokRV (x : TokR) : V := match x with
 | .ok k t n => .tup [tokV k t 0, intV n, intV 0]
 | .err e => .tup [tokV 0 [] 0, intV 0, intV e]
theorem tok_fin {o : VObj} {v : V} {x : TokR} (h : v = tokRV x) : VUpd 0 (.ret v) [o] fun r σ' => σ' = [] /\ r = .ret (tokRV x) := by
 subst h
 exact .drop 0 rfl rfl (by cases x <;> rfl) (.now rfl ⟨rfl, rfl⟩)
theorem digit_letter {c : UInt8} (h : isDigit c = true) : (isSmall c || isCapital c) = false := by
 have := digit_lt h
 have h1 : isSmall c = false := by
  unfold isSmall
  rw [decide_eq_false (by simp only [Int.ofNat_eq_natCast]; omega)]; rfl
 have h2 : isCapital c = false := by
  unfold isCapital
  rw [decide_eq_false (by simp only [Int.ofNat_eq_natCast]; omega)]; rfl
 rw [h1, h2]; rfl
theorem spanN_all (p : UInt8 -> Bool) (l : List UInt8) : (l.take (spanN p l)).all p = true := by
 unfold spanN
 have h : l = l.takeWhile p ++ l.dropWhile p := List.takeWhile_append_dropWhile.symm
 have h2 : l.take (l.takeWhile p).length = l.takeWhile p := by
  conv => lhs; rw [h]
  conv => lhs; arg 1; rw [<- h]
  rw [List.take_left']
  rfl
 rw [h2]
 exact List.all_takeWhile
theorem dF {c d : UInt8} (h : c ≠ d) : decide (Int.ofNat c.toNat = Int.ofNat d.toNat) = false := decide_eq_false fun e => h (UInt8.toNat_inj.1 (by simp only [Int.ofNat_eq_natCast] at e; omega))
set_option maxRecDepth 100000 in
set_option maxHeartbeats 8000000 in
theorem r_tok_text (s : List UInt8) (c : UInt8) (r : List UInt8) (hS : s = c :: r) (hs : s.length < 4294967296) (h34 : decide (Int.ofNat c.toNat = Int.ofNat (34 : UInt8).toNat) = true) : VCall C intr0 F.modcertref03_token [strV s] [] fun v σ' => σ' = [] /\ v = .ret (tokRV (tokF s)) := by
 have h0 : nth s 0 = some c := by rw [hS]; rfl
 refine VCall.b1 nofz (fun _ => rfl) ?_
 refine vnf rfl (exf c h0 ?_)
 refine vcp h34 ?_
 have e34 := bT (d := 34) h34
 subst e34
 refine r_text_spec s (by rw [hS]; simp) hs ?_
 have ht : tokF s = match litF (s.drop 1) with
  | some (b, n) => .ok 4 b (n + 1)
  | none => .err 3 := by rw [hS]; rfl
 generalize litF (s.drop 1) = x at ht
 cases x with
 | none =>
  refine VUpd.drop 0 ?_ ?_ ?_ ?_
  iterate 3 exact rfl
  refine VUpd.now rfl ⟨rfl, ?_⟩
  rw [ht]
  rfl
 | some x =>
  refine VUpd.drop 0 ?_ ?_ ?_ ?_
  iterate 3 exact rfl
  refine VUpd.now rfl ⟨rfl, ?_⟩
  rw [ht]
  rfl
set_option maxRecDepth 100000 in
set_option maxHeartbeats 8000000 in
theorem r_tok_digit (s : List UInt8) (c : UInt8) (r : List UInt8) (hS : s = c :: r) (hs : s.length < 4294967296) (h34 : c ≠ 34) (hdg : isDigit c = true) : VCall C intr0 F.modcertref03_token [strV s] [] fun v σ' => σ' = [] /\ v = .ret (tokRV (tokF s)) := by
 have h0 : nth s 0 = some c := by rw [hS]; rfl
 refine VCall.b1 nofz (fun _ => rfl) ?_
 refine vnf rfl (exf c h0 ?_)
 refine vcn (dF (d := 34) h34) ?_
 refine vnf rfl (exf c h0 ?_)
 refine r_digit_spec c ?_
 refine vcp hdg ?_
 refine r_span_digits s hs ?_
 have hnl := spanN_le isDigit s
 have htok : tokF s = numTok s (s.take (spanN isDigit s)) (spanN isDigit s) c := by
  rw [hS, tokF, if_neg (by rw [digit_letter hdg]; decide), if_pos hdg]
 have hpos : 0 < spanN isDigit s := by rw [hS, spanN_cons, if_pos hdg]; omega
 generalize spanN isDigit s = n at hnl htok hpos
 have hlen : (s.take n).length = n := by rw [List.length_take]; omega
 refine vci (fun h19 => ?_) (fun h19 => ?_)
 ·have h19' := dlt (a := 19) h19
  repeat refine vcp h19 ?_
  have hcond : 19 < n ∨ (1 < n /\ c = 48) ∨ (s.drop n).head?.any isWord = true := .inl h19'
  have htk : tokF s = .err 3 := by rw [htok, numTok, hlen, if_pos hcond]
  refine VUpd.drop 0 ?_ ?_ ?_ ?_
  iterate 3 exact rfl
  refine VUpd.now rfl ⟨rfl, ?_⟩
  rw [htk]
  rfl
 ·have h19' := dnlt (a := 19) h19
  repeat refine vcn h19 ?_
  refine vci (fun h1 => ?_) (fun h1 => ?_)
  ·have h1' := dlt (a := 1) h1
   repeat first | refine vcn h19 ?_ | refine vcp h1 ?_
   refine vnf rfl (exf c h0 ?_)
   repeat first | refine vcn h19 ?_ | refine vcp h1 ?_
   refine vci (fun h48 => ?_) (fun h48 => ?_)
   ·have e48 := bT (d := 48) h48
    repeat first | refine vcn h19 ?_ | refine vcp h1 ?_ | refine vcp h48 ?_
    have hcond : 19 < n ∨ (1 < n /\ c = 48) ∨ (s.drop n).head?.any isWord = true := .inr (.inl ⟨h1', e48⟩)
    have htk : tokF s = .err 3 := by rw [htok, numTok, hlen, if_pos hcond]
    refine VUpd.drop 0 ?_ ?_ ?_ ?_
    iterate 3 exact rfl
    refine VUpd.now rfl ⟨rfl, ?_⟩
    rw [htk]
    rfl
   ·have e48 := bF (d := 48) h48
    repeat first | refine vcn h19 ?_ | refine vcp h1 ?_ | refine vcn h48 ?_
    refine vci (fun hl => ?_) (fun hl => ?_)
    ·have hl' : n < s.length := dlt hl
     have hd : s.drop n = s[n] :: s.drop (n + 1) := List.drop_eq_getElem_cons hl'
     repeat first | refine vcn h48 ?_ | refine vcp hl ?_
     refine vnf rfl (exf s[n] (by rw [nth_eq]; exact List.getElem?_eq_getElem hl') ?_)
     generalize s[n] = cn at hd
     repeat first | refine vcn h48 ?_ | refine vcp hl ?_
     refine r_word_spec cn ?_
     cases hw : isWord cn
     rotate_left
     ·repeat first | refine vcn h48 ?_ | refine vcp hl ?_
      have hcond : 19 < n ∨ (1 < n /\ c = 48) ∨ (s.drop n).head?.any isWord = true := by rw [hd]; exact .inr (.inr hw)
      have htk : tokF s = .err 3 := by rw [htok, numTok, hlen, if_pos hcond]
      refine VUpd.drop 0 ?_ ?_ ?_ ?_
      iterate 3 exact rfl
      refine VUpd.now rfl ⟨rfl, ?_⟩
      rw [htk]
      rfl
     ·repeat first | refine vcn h48 ?_ | refine vcp hl ?_
      refine vnf rfl (vni ⟨Nat.zero_le _, hnl⟩ ?_)
      have hcond : ¬ (19 < n ∨ (1 < n /\ c = 48) ∨ (s.drop n).head?.any isWord = true) := by rw [hd]; rintro (h | h | h); exact absurd h (by omega); exact e48 h.2; exact absurd h (by simp [hw])
      have htk : tokF s = .ok 3 (s.take n) n := by rw [htok, numTok, hlen, if_neg hcond]
      refine VUpd.drop 0 ?_ ?_ ?_ ?_
      iterate 3 exact rfl
      refine VUpd.now rfl ⟨rfl, ?_⟩
      rw [htk]
      rfl
    ·have hl' : s.length <= n := dnlt hl
     repeat first | refine vcn h48 ?_ | refine vcn hl ?_
     refine vnf rfl (vni ⟨Nat.zero_le _, hnl⟩ ?_)
     have hcond : ¬ (19 < n ∨ (1 < n /\ c = 48) ∨ (s.drop n).head?.any isWord = true) := by rw [List.drop_of_length_le hl']; rintro (h | h | h); exact absurd h (by omega); exact e48 h.2; exact absurd h (by simp)
     have htk : tokF s = .ok 3 (s.take n) n := by rw [htok, numTok, hlen, if_neg hcond]
     refine VUpd.drop 0 ?_ ?_ ?_ ?_
     iterate 3 exact rfl
     refine VUpd.now rfl ⟨rfl, ?_⟩
     rw [htk]
     rfl
  ·have h1' := dnlt (a := 1) h1
   repeat (change vcond _ _ _; first | refine vcn (by with_reducible exact h19) ?_ | refine vcn (by with_reducible exact h1) ?_)
   refine vci (fun hl => ?_) (fun hl => ?_)
   ·have hl' : n < s.length := dlt hl
    have hd : s.drop n = s[n] :: s.drop (n + 1) := List.drop_eq_getElem_cons hl'
    repeat (change vcond _ _ _; first | refine vcn (by with_reducible exact h19) ?_ | refine vcn (by with_reducible exact h1) ?_ | refine vcp (by with_reducible exact hl) ?_)
    refine vnf rfl (exf s[n] (by rw [nth_eq]; exact List.getElem?_eq_getElem hl') ?_)
    generalize s[n] = cn at hd
    repeat (change vcond _ _ _; first | refine vcn (by with_reducible exact h19) ?_ | refine vcn (by with_reducible exact h1) ?_ | refine vcp (by with_reducible exact hl) ?_)
    refine r_word_spec cn ?_
    cases hw : isWord cn
    rotate_left
    ·repeat (change vcond _ _ _; first | refine vcn (by with_reducible exact h19) ?_ | refine vcn (by with_reducible exact h1) ?_ | refine vcp (by with_reducible exact hl) ?_)
     have hcond : 19 < n ∨ (1 < n /\ c = 48) ∨ (s.drop n).head?.any isWord = true := by rw [hd]; exact .inr (.inr hw)
     have htk : tokF s = .err 3 := by rw [htok, numTok, hlen, if_pos hcond]
     refine VUpd.drop 0 ?_ ?_ ?_ ?_
     iterate 3 exact rfl
     refine VUpd.now rfl ⟨rfl, ?_⟩
     rw [htk]
     rfl
    ·repeat (change vcond _ _ _; first | refine vcn (by with_reducible exact h19) ?_ | refine vcn (by with_reducible exact h1) ?_ | refine vcp (by with_reducible exact hl) ?_)
     refine vnf rfl (vni ⟨Nat.zero_le _, hnl⟩ ?_)
     have hcond : ¬ (19 < n ∨ (1 < n /\ c = 48) ∨ (s.drop n).head?.any isWord = true) := by rw [hd]; rintro (h | h | h); exact absurd h (by omega); exact absurd h.1 (by omega); exact absurd h (by simp [hw])
     have htk : tokF s = .ok 3 (s.take n) n := by rw [htok, numTok, hlen, if_neg hcond]
     refine VUpd.drop 0 ?_ ?_ ?_ ?_
     iterate 3 exact rfl
     refine VUpd.now rfl ⟨rfl, ?_⟩
     rw [htk]
     rfl
   ·have hl' : s.length <= n := dnlt hl
    repeat (change vcond _ _ _; first | refine vcn (by with_reducible exact h19) ?_ | refine vcn (by with_reducible exact h1) ?_ | refine vcn (by with_reducible exact hl) ?_)
    refine vnf rfl (vni ⟨Nat.zero_le _, hnl⟩ ?_)
    have hcond : ¬ (19 < n ∨ (1 < n /\ c = 48) ∨ (s.drop n).head?.any isWord = true) := by rw [List.drop_of_length_le hl']; rintro (h | h | h); exact absurd h (by omega); exact absurd h.1 (by omega); exact absurd h (by simp)
    have htk : tokF s = .ok 3 (s.take n) n := by rw [htok, numTok, hlen, if_neg hcond]
    refine VUpd.drop 0 ?_ ?_ ?_ ?_
    iterate 3 exact rfl
    refine VUpd.now rfl ⟨rfl, ?_⟩
    rw [htk]
    rfl
set_option maxRecDepth 100000 in
set_option maxHeartbeats 8000000 in
theorem r_tok_small (s : List UInt8) (c : UInt8) (r : List UInt8) (hS : s = c :: r) (hs : s.length < 4294967296) (h34 : c ≠ 34) (hdg : isDigit c = false) (hsm : isSmall c = true) : VCall C intr0 F.modcertref03_token [strV s] [] fun v σ' => σ' = [] /\ v = .ret (tokRV (tokF s)) := by
 have h0 : nth s 0 = some c := by rw [hS]; rfl
 refine VCall.b1 nofz (fun _ => rfl) ?_
 refine vnf rfl (exf c h0 ?_)
 refine vcn (dF (d := 34) h34) ?_
 refine vnf rfl (exf c h0 ?_)
 refine r_digit_spec c ?_
 refine vcn hdg ?_
 refine vnf rfl (exf c h0 ?_)
 refine r_small_spec c ?_
 repeat refine vcp hsm ?_
 refine r_span_words s hs ?_
 have hnl := spanN_le isWord s
 have hall := spanN_all isWord s
 have htok : tokF s = wordTok (s.take (spanN isWord s)) (spanN isWord s) := by
  rw [hS, tokF, if_pos (by rw [show isSmall c = true from hsm]; rfl)]
 generalize spanN isWord s = n at hnl htok hall
 have hlt : (s.take n).length < 4294967296 := by rw [List.length_take]; omega
 repeat first | refine vnf rfl (vni ⟨Nat.zero_le _, hnl⟩ ?_) | refine vni (by repeat' (first | exact trivial | exact rfl | refine vnf rfl (vni ⟨Nat.zero_le _, hnl⟩ ?_) | refine And.intro ?_ ?_)) ?_
 refine r_keywords_spec (fun b => ?_)
 repeat first | refine vnf rfl (vni ⟨Nat.zero_le _, hnl⟩ ?_) | refine vni (by repeat' (first | exact trivial | exact rfl | refine vnf rfl (vni ⟨Nat.zero_le _, hnl⟩ ?_) | refine And.intro ?_ ?_)) ?_
 refine r_has_spec kwL (by decide) _ b 28 ?_
 rw [List.drop_zero, <- isKw_has hall]
 repeat refine vni (by repeat' (first | exact trivial | exact rfl | refine vnf rfl ?_ | refine vnf rfl (vni ⟨Nat.zero_le _, hnl⟩ ?_) | refine And.intro ?_ ?_)) ?_
 refine vci (fun hk => ?_) (fun hk => ?_)
 ·have htk : tokF s = .ok 5 (s.take n) n := by rw [htok, wordTok, if_pos hk]
  refine vnf rfl (vni ⟨Nat.zero_le _, hnl⟩ ?_)
  refine VUpd.drop 0 ?_ ?_ ?_ ?_
  iterate 3 exact rfl
  refine VUpd.now rfl ⟨rfl, by rw [htk]; rfl⟩
 ·refine vnf rfl (vni ⟨Nat.zero_le _, hnl⟩ ?_)
  refine r_isName_spec _ hlt ?_
  refine vci (fun hk2 => ?_) (fun hk2 => ?_)
  ·have htk : tokF s = .ok 1 (s.take n) n := by rw [htok, wordTok, if_neg (by rw [hk]; decide), if_pos hk2]
   refine vnf rfl (vni ⟨Nat.zero_le _, hnl⟩ ?_)
   refine VUpd.drop 0 ?_ ?_ ?_ ?_
   iterate 3 exact rfl
   refine VUpd.now rfl ⟨rfl, by rw [htk]; rfl⟩
  ·refine vnf rfl (vni ⟨Nat.zero_le _, hnl⟩ ?_)
   refine r_isType_spec _ hlt ?_
   refine vci (fun hk3 => ?_) (fun hk3 => ?_)
   ·have htk : tokF s = .ok 2 (s.take n) n := by rw [htok, wordTok, if_neg (by rw [hk]; decide), if_neg (by rw [show isName (s.take n) = false from hk2]; decide), if_pos hk3]
    refine vnf rfl (vni ⟨Nat.zero_le _, hnl⟩ ?_)
    refine VUpd.drop 0 ?_ ?_ ?_ ?_
    iterate 3 exact rfl
    refine VUpd.now rfl ⟨rfl, by rw [htk]; rfl⟩
   ·have htk : tokF s = .err 4 := by rw [htok, wordTok, if_neg (by rw [hk]; decide), if_neg (by rw [show isName (s.take n) = false from hk2]; decide), if_neg (by rw [show isType (s.take n) = false from hk3]; decide)]
    refine VUpd.drop 0 ?_ ?_ ?_ ?_
    iterate 3 exact rfl
    refine VUpd.now rfl ⟨rfl, by rw [htk]; rfl⟩
set_option maxRecDepth 100000 in
set_option maxHeartbeats 8000000 in
theorem r_tok_capital (s : List UInt8) (c : UInt8) (r : List UInt8) (hS : s = c :: r) (hs : s.length < 4294967296) (h34 : c ≠ 34) (hdg : isDigit c = false) (hsm : isSmall c = false) (hcp : isCapital c = true) : VCall C intr0 F.modcertref03_token [strV s] [] fun v σ' => σ' = [] /\ v = .ret (tokRV (tokF s)) := by
 have h0 : nth s 0 = some c := by rw [hS]; rfl
 refine VCall.b1 nofz (fun _ => rfl) ?_
 refine vnf rfl (exf c h0 ?_)
 refine vcn (dF (d := 34) h34) ?_
 refine vnf rfl (exf c h0 ?_)
 refine r_digit_spec c ?_
 refine vcn hdg ?_
 refine vnf rfl (exf c h0 ?_)
 refine r_small_spec c ?_
 repeat refine vcn hsm ?_
 refine vnf rfl (exf c h0 ?_)
 repeat refine vcn hsm ?_
 refine r_capital_spec c ?_
 repeat refine vcn hsm ?_
 repeat first | refine vcp hcp ?_ | refine vcn hsm ?_
 refine r_span_words s hs ?_
 have hnl := spanN_le isWord s
 have hall := spanN_all isWord s
 have htok : tokF s = wordTok (s.take (spanN isWord s)) (spanN isWord s) := by
  rw [hS, tokF, if_pos (by rw [show isCapital c = true from hcp, Bool.or_true])]
 generalize spanN isWord s = n at hnl htok hall
 have hlt : (s.take n).length < 4294967296 := by rw [List.length_take]; omega
 repeat first | refine vnf rfl (vni ⟨Nat.zero_le _, hnl⟩ ?_) | refine vni (by repeat' (first | exact trivial | exact rfl | refine vnf rfl (vni ⟨Nat.zero_le _, hnl⟩ ?_) | refine And.intro ?_ ?_)) ?_
 refine r_keywords_spec (fun b => ?_)
 repeat first | refine vnf rfl (vni ⟨Nat.zero_le _, hnl⟩ ?_) | refine vni (by repeat' (first | exact trivial | exact rfl | refine vnf rfl (vni ⟨Nat.zero_le _, hnl⟩ ?_) | refine And.intro ?_ ?_)) ?_
 refine r_has_spec kwL (by decide) _ b 28 ?_
 rw [List.drop_zero, <- isKw_has hall]
 repeat refine vni (by repeat' (first | exact trivial | exact rfl | refine vnf rfl ?_ | refine vnf rfl (vni ⟨Nat.zero_le _, hnl⟩ ?_) | refine And.intro ?_ ?_)) ?_
 refine vci (fun hk => ?_) (fun hk => ?_)
 ·have htk : tokF s = .ok 5 (s.take n) n := by rw [htok, wordTok, if_pos hk]
  refine vnf rfl (vni ⟨Nat.zero_le _, hnl⟩ ?_)
  refine VUpd.drop 0 ?_ ?_ ?_ ?_
  iterate 3 exact rfl
  refine VUpd.now rfl ⟨rfl, by rw [htk]; rfl⟩
 ·refine vnf rfl (vni ⟨Nat.zero_le _, hnl⟩ ?_)
  refine r_isName_spec _ hlt ?_
  refine vci (fun hk2 => ?_) (fun hk2 => ?_)
  ·have htk : tokF s = .ok 1 (s.take n) n := by rw [htok, wordTok, if_neg (by rw [hk]; decide), if_pos hk2]
   refine vnf rfl (vni ⟨Nat.zero_le _, hnl⟩ ?_)
   refine VUpd.drop 0 ?_ ?_ ?_ ?_
   iterate 3 exact rfl
   refine VUpd.now rfl ⟨rfl, by rw [htk]; rfl⟩
  ·refine vnf rfl (vni ⟨Nat.zero_le _, hnl⟩ ?_)
   refine r_isType_spec _ hlt ?_
   refine vci (fun hk3 => ?_) (fun hk3 => ?_)
   ·have htk : tokF s = .ok 2 (s.take n) n := by rw [htok, wordTok, if_neg (by rw [hk]; decide), if_neg (by rw [show isName (s.take n) = false from hk2]; decide), if_pos hk3]
    refine vnf rfl (vni ⟨Nat.zero_le _, hnl⟩ ?_)
    refine VUpd.drop 0 ?_ ?_ ?_ ?_
    iterate 3 exact rfl
    refine VUpd.now rfl ⟨rfl, by rw [htk]; rfl⟩
   ·have htk : tokF s = .err 4 := by rw [htok, wordTok, if_neg (by rw [hk]; decide), if_neg (by rw [show isName (s.take n) = false from hk2]; decide), if_neg (by rw [show isType (s.take n) = false from hk3]; decide)]
    refine VUpd.drop 0 ?_ ?_ ?_ ?_
    iterate 3 exact rfl
    refine VUpd.now rfl ⟨rfl, by rw [htk]; rfl⟩
set_option maxRecDepth 100000 in
set_option maxHeartbeats 8000000 in
theorem r_tok_sym (s : List UInt8) (c : UInt8) (r : List UInt8) (hS : s = c :: r) (hs : s.length < 4294967296) (h34 : c ≠ 34) (hdg : isDigit c = false) (hsm : isSmall c = false) (hcp : isCapital c = false) : VCall C intr0 F.modcertref03_token [strV s] [] fun v σ' => σ' = [] /\ v = .ret (tokRV (tokF s)) := by
 have h0 : nth s 0 = some c := by rw [hS]; rfl
 refine VCall.b1 nofz (fun _ => rfl) ?_
 refine vnf rfl (exf c h0 ?_)
 refine vcn (dF (d := 34) h34) ?_
 refine vnf rfl (exf c h0 ?_)
 refine r_digit_spec c ?_
 refine vcn hdg ?_
 refine vnf rfl (exf c h0 ?_)
 refine r_small_spec c ?_
 repeat refine vcn hsm ?_
 refine vnf rfl (exf c h0 ?_)
 repeat refine vcn hsm ?_
 refine r_capital_spec c ?_
 repeat refine vcn hsm ?_
 repeat first | refine vcn hcp ?_ | refine vcn hsm ?_
 refine r_symbols_spec (fun b => ?_)
 have htok : tokF s = if symOf (c :: r) = [] then .err 3 else .ok 6 (symOf (c :: r)) (symOf (c :: r)).length := by
  rw [hS, tokF, if_neg (by rw [show isSmall c = false from hsm, show isCapital c = false from hcp]; decide), if_neg (by rw [hdg]; decide), if_neg (h34)]
 rw [symOf_find, <- hS] at htok
 refine VCode.less (tm0 := [(0, strV s), (2, .bp 0 0), (3, intV 0), (4, intV 0), (7, .d (.ps b 0 1 25 (strsC symsL))), (8, intV 0)]) ⟨rfl, rfl, rfl, rfl, rfl, rfl, trivial⟩ ?_
 have h25 : symsL.length = 25 := rfl
 refine VCode.iter (fun i : Nat => [(0, strV s), (2, .bp 0 0), (3, intV 0), (4, intV 0), (7, .d (.ps b 0 1 25 (strsC symsL))), (8, intV i)]) (fun _ => [.box tok0]) (fun i => 25 - i) (fun i => i <= 25 /\ (symsL.take i).find? (hasPre s) = none) ?_ 0 ⟨by omega, rfl⟩
 rintro i ⟨hi, hp⟩
 refine vci (fun hc => ?_) (fun hc => ?_)
 ·have h : i < symsL.length := dlt hc
  have hgi : symsL[i]? = some symsL[i] := List.getElem?_eq_getElem h
  have hne : symsL[i] ≠ [] := by have := List.getElem_mem h; exact (show ∀ x ∈ symsL, x ≠ [] by decide) _ this
  have hsp : symsL = symsL.take i ++ symsL[i] :: symsL.drop (i + 1) := by rw [<- List.drop_eq_getElem_cons h, List.take_append_drop]
  have hnx : (symsL.take (i + 1)).find? (hasPre s) = none ∨ hasPre s symsL[i] = true := by
   cases hb : hasPre s symsL[i] with
   | true => exact .inr rfl
   | false => left; rw [List.take_add_one, hgi, List.find?_append, hp]; simp [hb]
  have hyes : hasPre s symsL[i] = true -> tokF s = .ok 6 symsL[i] symsL[i].length := fun hb => by
   have : symsL.find? (hasPre s) = some symsL[i] := (congrArg (List.find? (hasPre s)) hsp).trans (by rw [List.find?_append, hp, List.find?_cons, hb]; rfl)
   rw [htok, this]
   exact if_neg hne
  have hx : nth (strsC symsL) i = some [.str symsL[i]] := by rw [nth_eq, strsC, List.getElem?_map, hgi]; rfl
  generalize symsL[i] = x at hnx hyes hx
  refine vnf rfl (exf _ hx ?_)
  refine vci (fun hle => ?_) (fun hle => ?_)
  ·have hle' : x.length <= s.length := dle hle
   repeat first
    | refine vcp hle ?_
    | refine vnf rfl (exf _ hx ?_)
    | refine vnf rfl (vni ⟨Nat.zero_le _, hle'⟩ ?_)
    | refine vni (by repeat' (first | exact trivial | exact rfl | refine vcp hle ?_ | refine vnf rfl (exf _ hx ?_) | refine vnf rfl (vni ⟨Nat.zero_le _, hle'⟩ ?_) | refine And.intro ?_ ?_)) ?_
   refine vci (fun hq => ?_) (fun hq => ?_)
   ·have hb : hasPre s x = true := by rw [<- hasPre_yes hle']; exact hq
    have htk := hyes hb
    repeat first
     | refine vcp hle ?_
     | refine vnf rfl (exf _ hx ?_)
     | refine vnf rfl (vni ⟨Nat.zero_le _, hle'⟩ ?_)
     | refine vni (by repeat' (first | exact trivial | exact rfl | refine vcp hle ?_ | refine vnf rfl (exf _ hx ?_) | refine vnf rfl (vni ⟨Nat.zero_le _, hle'⟩ ?_) | refine And.intro ?_ ?_)) ?_
    refine VUpd.drop 0 ?_ ?_ ?_ ?_
    iterate 3 exact rfl
    refine VUpd.now rfl ⟨rfl, by rw [htk]; rfl⟩
   ·have hb : hasPre s x = false := by rw [<- hasPre_yes hle']; exact hq
    refine ⟨i + 1, ⟨by omega, ?_⟩, by show 25 - (i + 1) < 25 - i; omega, .same ⟨rfl, rfl, rfl, rfl, rfl, int_eq (wrap_succ (by omega)), trivial⟩ rfl, rfl, rfl⟩
    rcases hnx with h | h
    ·exact h
    ·rw [hb] at h; cases h
  ·have hb : hasPre s x = false := hasPre_no (dnle hle)
   repeat first
    | refine vcn hle ?_
    | refine vnf rfl (exf _ hx ?_)
    | refine vni (by repeat' (first | exact trivial | exact rfl | refine vcn hle ?_ | refine vnf rfl (exf _ hx ?_) | refine And.intro ?_ ?_)) ?_
   refine ⟨i + 1, ⟨by omega, ?_⟩, by show 25 - (i + 1) < 25 - i; omega, .same ⟨rfl, rfl, rfl, rfl, rfl, int_eq (wrap_succ (by omega)), trivial⟩ rfl, rfl, rfl⟩
   rcases hnx with h | h
   ·exact h
   ·rw [hb] at h; cases h
 ·have h : 25 <= i := dnlt hc
  rw [List.take_of_length_le h] at hp
  rw [hp] at htok
  refine VUpd.drop 0 ?_ ?_ ?_ ?_
  iterate 3 exact rfl
  refine VUpd.now rfl ⟨rfl, by rw [htok]; rfl⟩
theorem r_token_spec0 (s : List UInt8) (c : UInt8) (r : List UInt8) (hS : s = c :: r) (hs : s.length < 4294967296) : VCall C intr0 F.modcertref03_token [strV s] [] fun v σ' => σ' = [] /\ v = .ret (tokRV (tokF s)) := by
 cases h34 : decide (Int.ofNat c.toNat = Int.ofNat (34 : UInt8).toNat) with
 | true => exact r_tok_text s c r hS hs h34
 | false =>
  have h34 := bF h34
  cases hdg : isDigit c with
  | true => exact r_tok_digit s c r hS hs h34 hdg
  | false =>
   cases hsm : isSmall c with
   | true => exact r_tok_small s c r hS hs h34 hdg hsm
   | false =>
    cases hcp : isCapital c with
    | true => exact r_tok_capital s c r hS hs h34 hdg hsm hcp
    | false => exact r_tok_sym s c r hS hs h34 hdg hsm hcp
theorem r_token_spec (s : List UInt8) (c : UInt8) (r : List UInt8) (hS : s = c :: r) (hs : s.length < 4294967296) {σ : VS} {K : VCR -> VS -> Prop} (hk : K (.ret (tokRV (tokF s))) σ) : VCall C intr0 F.modcertref03_token [strV s] σ K := by
 refine VCall.pure (r_token_spec0 s c r hS hs) rfl ?_ hk
 cases tokF s <;> rfl
def rlfz : Nat -> Bool := fun t => Nat.beq t 36 || Nat.beq t 50
def rlT (s : List UInt8) (x : Nat × List Tok) : Tm := [(0, strV s), (5, .ms 0 3 0 x.2.length x.2.length), (6, intV x.1)]
def rlS (acc : List Tok) : VS := [tokRow acc]
theorem rl_fit {c i n : Nat} (h : c <= i) (h' : i < 4294967296) (hn : n = 1 := by rfl) : (c + n) * 32 <= limit /\ c + n <= limit := by
 unfold limit
 omega
theorem rl_grow {π : Nat -> Nat} (acc : List Tok) (t : Tok) : some (VObj.row 3 (List.take acc.length (List.drop 0 (acc.map fun t => (tokD t).map V.d)) ++ [(tokD t).map V.d])) = some (renO π (tokRow (acc ++ [t]))) := by
 rw [renO_toks, tokRow, List.map_append, List.drop_zero, List.take_of_length_le (by simp)]
 rfl
theorem rl_out (i : Nat) (acc : List Tok) (t : Tok) : some (V.ms i 3 0 (acc.length + 1) (acc.length + 1)) = some (V.ms i 3 0 (acc ++ [t]).length (acc ++ [t]).length) := by simp
theorem r_skip_at (s : List UInt8) (at0 : Nat) (h0 : at0 <= s.length) (hs : s.length < 4294967296) {v : V} (hv : v = intV at0) {σ : VS} {K : VCR -> VS -> Prop} (hk : K (.ret (intV (skipF false (s.drop at0)))) σ) : VCall C intr0 F.modcertref03_skip [strV s, v] σ K := by
 subst hv
 exact r_skip_spec s at0 h0 hs hk
set_option maxRecDepth 100000 in
set_option maxHeartbeats 8000000 in
theorem r_lex_spec (s : List UInt8) {σ : VS} {K : VCR -> VS -> Prop} (hk : ∀ r, lexP (lexF s) r -> K r σ) : VCall C intr0 F.modcertref03_Lex [strV s] σ K := by
 refine VCall.closed (P := lexP (lexF s)) ?_ rfl hk
 refine VCall.b1 rlfz (fun _ => rfl) ?_
 refine vci (fun h => ?_) (fun h => ?_)
 ·have h' : 65536 < s.length := dlt (a := 65536) h
  refine VUpd.now rfl ⟨rfl, rfl, ?_⟩
  rw [lexF, if_pos h']
  rfl
 ·have h' : s.length <= 65536 := dnlt (a := 65536) h
  have hs : s.length < 4294967296 := by omega
  refine r_skip_spec s 0 (Nat.zero_le _) hs ?_
  refine VCode.arr (tm0 := rlT s (skipF false s, [])) (σ0 := rlS []) (.same ⟨rfl, rfl, rfl, trivial⟩ rfl) ?_
  refine VCode.iter (rlT s) (fun x => rlS x.2) (fun x => s.length - x.1) (lexInv s) ?_ (skipF false s, []) ⟨skipF_le false s, Nat.zero_le _, s.length + 1, by show s.length - skipF false s < s.length + 1; omega, by rw [LexR.app_nil]⟩
  rintro ⟨i, acc⟩ ⟨hi, hal, f, hf, hp⟩
  have hi : i <= s.length := hi
  have hal : acc.length <= i := hal
  have hf : s.length - i < f := hf
  have hp : lexGo s (s.length + 1) (skipF false s) = (lexGo s f i).app acc := hp
  obtain ⟨f, rfl⟩ : ∃ g, f = g + 1 := ⟨f - 1, by omega⟩
  refine vci (fun hc => ?_) (fun hc => ?_)
  ·have hl : i < s.length := dlt hc
   have hd : s.drop i = s[i] :: s.drop (i + 1) := List.drop_eq_getElem_cons hl
   refine vnf rfl (vni ⟨hi, Nat.le_refl _⟩ ?_)
   rw [List.take_length]
   refine r_token_spec (s.drop i) _ _ hd (by rw [List.length_drop]; omega) ?_
   cases ht : tokF (s.drop i) with
   | err e =>
    have he := tokF_err ht
    refine vci (fun h9 => ?_) (fun h9 => absurd (nz_of h9) he)
    refine VUpd.drop 0 ?_ ?_ ?_ ?_
    iterate 3 exact rfl
    refine VUpd.now rfl ⟨rfl, rfl, ?_⟩
    rw [lex_err h' hl ht hp]
    rfl
   | ok k t n =>
    have hn := tokF_len ht
    rw [List.length_drop] at hn
    have hin : i + n <= s.length := by omega
    have hsk := skipF_le false (s.drop (i + n))
    rw [List.length_drop] at hsk
    intro b
    refine vni rfl (vni ⟨rfl, rfl, by simp [tokRow], Nat.le_refl _, rl_fit hal (by omega)⟩ ?_)
    refine vcn rfl (vcn (lit_full acc.length) ?_)
    refine r_skip_at s (i + n) hin hs (congrArg V.d (congrArg (D.int .i64) (wrap_add (by omega)))) ?_
    refine ⟨(i + n + skipF false (s.drop (i + n)), acc ++ [⟨k, t, i⟩]), lex_step hl hf hal ht hp, by show s.length - (i + n + skipF false (s.drop (i + n))) < s.length - i; omega, ?_, rfl, rfl⟩
    refine .pick 0 [2] ⟨rfl, rl_out 2 acc ⟨k, t, i⟩, int_eq ?_, trivial⟩ rfl rfl rfl rfl rfl (by decide) ⟨rl_grow acc ⟨k, t, i⟩, bd_toks _ _, trivial⟩
    rw [wrap_add (by omega)]
    exact wrap_add (by omega)
  ·have hl : s.length <= i := dnlt hc
   intro b
   refine vni rfl (vni ⟨rfl, rfl, by simp [tokRow], Nat.le_refl _, rl_fit hal (by omega)⟩ ?_)
   refine vcn rfl (vcn (lit_full acc.length) ?_)
   rw [lex_ok h' hl hp]
   refine lex_end 1 (acc ++ [⟨0, [], s.length⟩]) (acc.length + 1) (by simp) ?_
   exact grow_toks0 acc acc.length rfl ⟨0, [], s.length⟩
end Go.Proofs.YtifncjhjnjldmaaGreatDoor
