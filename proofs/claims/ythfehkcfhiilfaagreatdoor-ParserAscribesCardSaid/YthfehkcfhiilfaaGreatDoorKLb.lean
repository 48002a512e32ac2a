/- Contracts of the lexer's functions, part two: Lex. -/
import Derived.Test.YthfehkcfhiilfaaGreatDoorKLa
namespace Go.Proofs.YthfehkcfhiilfaaGreatDoor set_option linter.unusedSimpArgs false set_option linter.unusedVariables false
open Go.AM Go.VM
inductive TokR where
 | ok (kind : Nat) (text : List UInt8) (n : Nat)
 | err (e : Nat)
def wordTok (t : List UInt8) (n : Nat) : TokR := if isKw t then .ok 5 t n else if isName t then .ok 1 t n else if isType t then .ok 2 t n else .err 4
def numTok (l t : List UInt8) (n : Nat) (c : UInt8) : TokR := if 19 < t.length ∨ (1 < t.length /\ c = 48) ∨ (l.drop n).head?.any isWord = true then .err 3 else .ok 3 t n
def tokF : List UInt8 -> TokR
 | [] => .err 3
 | c :: r =>
  if isSmall c || isCapital c then wordTok ((c :: r).take (spanN isWord (c :: r))) (spanN isWord (c :: r))
  else if isDigit c then numTok (c :: r) ((c :: r).take (spanN isDigit (c :: r))) (spanN isDigit (c :: r)) c
  else if c = 34 then match litF r with
   | some (b, n) => .ok 4 b (n + 1)
   | none => .err 3
  else if symOf (c :: r) = [] then .err 3 else .ok 6 (symOf (c :: r)) (symOf (c :: r)).length
def tokV (k : Nat) (t : List UInt8) (at0 : Nat) : V := .agg [intV k, strV t, intV at0]
def nextP (at0 : Nat) (x : TokR) (r : VCR) : Prop := match x with
 | .ok k t n => r = .ret (.tup [tokV k t at0, intV (at0 + n), intV 0])
 | .err e => ∃ k t, r = .ret (.tup [tokV k t at0, intV at0, intV e])
theorem next_fin {at0 : Nat} {x : TokR} {v : V} {o1 o2 : VObj} (h : nextP at0 x (.ret v)) (hb : bd 0 v = true) : VUpd 0 (.ret v) [o1, o2] fun r σ' => σ' = [] /\ closedCR r = true /\ nextP at0 x r :=
 .drop 0 rfl rfl hb (.now rfl ⟨rfl, hb, h⟩)
theorem symOf_len (l : List UInt8) : (symOf l).length <= 3 := by
 unfold symOf
 split
 ·rename_i x h
  have := List.mem_of_find?_eq_some h
  simp only [syms7, List.mem_cons, List.not_mem_nil, or_false] at this
  rcases this with rfl | rfl | rfl | rfl | rfl | rfl | rfl <;> simp
 ·split
  ·simp
  ·split <;> simp
set_option maxHeartbeats 4000000 in
theorem next_spec (s : List UInt8) (at0 : Nat) (h0 : at0 < s.length) (hs : s.length < 4294967296) {σ : VS} {K : VCR -> VS -> Prop} (hk : ∀ r, nextP at0 (tokF (s.drop at0)) r -> K r σ) :
  VCall C intr0 F.lexer_next [strV s, intV at0] σ K := by
 refine VCall.closed (P := nextP at0 (tokF (s.drop at0))) ?_ rfl hk
 have hd : s.drop at0 = s[at0] :: s.drop (at0 + 1) := List.drop_eq_getElem_cons h0
 refine VCall.b1 nofz (fun _ => rfl) ?_
 refine vnf rfl (exf s[at0] (by rw [nth_eq]; exact List.getElem?_eq_getElem h0) ?_)
 have hword : (isSmall s[at0] || isCapital s[at0]) = true -> tokF (s.drop at0) = wordTok ((s.drop at0).take (spanN isWord (s.drop at0))) (spanN isWord (s.drop at0)) := fun h => by
  rw [hd]; simp only [tokF, h, if_true]
 have hsl : (s.take (at0 + spanN isWord (s.drop at0))).drop at0 = (s.drop at0).take (spanN isWord (s.drop at0)) := by rw [List.drop_take]; congr 1; omega
 have hle : at0 + spanN isWord (s.drop at0) <= s.length := by have := spanN_le isWord (s.drop at0); rw [List.length_drop] at this; omega
 have htl : ((s.drop at0).take (spanN isWord (s.drop at0))).length < 4294967296 := by rw [List.length_take, List.length_drop]; omega
 refine small_spec s[at0] ?_
 refine vci (fun h1 => ?_) (fun h1 => ?_)
 ·have htok := hword (by rw [h1]; rfl)
  repeat refine vcp h1 ?_
  refine span_spec word_fn s at0 (by omega) hs ?_
  refine vnf rfl (vnf rfl (vni ⟨by omega, hle⟩ ?_))
  rw [hsl]
  refine keyword_spec _ htl ?_
  refine vci (fun h2 => ?_) (fun h2 => ?_)
  ·refine next_fin ?_ rfl
   rw [htok, wordTok, if_pos h2]
   rfl
  ·refine isName_spec _ htl ?_
   refine vci (fun h3 => ?_) (fun h3 => ?_)
   ·refine next_fin ?_ rfl
    rw [htok, wordTok, if_neg (by rw [h2]; simp), if_pos h3]
    rfl
   ·refine isType_spec _ htl ?_
    refine vci (fun h4 => ?_) (fun h4 => ?_)
    ·refine next_fin ?_ rfl
     rw [htok, wordTok, if_neg (by rw [h2]; simp), if_neg (by rw [h3]; simp), if_pos h4]
     rfl
    ·refine next_fin ?_ rfl
     rw [htok, wordTok, if_neg (by rw [h2]; simp), if_neg (by rw [h3]; simp), if_neg (by rw [h4]; simp)]
     exact ⟨0, _, rfl⟩
 ·repeat refine vcn h1 ?_
  refine capital_spec s[at0] ?_
  repeat refine vcn h1 ?_
  refine vci (fun h1' => ?_) (fun h1' => ?_)
  ·have htok := hword (by rw [h1']; simp)
   refine span_spec word_fn s at0 (by omega) hs ?_
   refine vnf rfl (vnf rfl (vni ⟨by omega, hle⟩ ?_))
   rw [hsl]
   refine keyword_spec _ htl ?_
   refine vci (fun h2 => ?_) (fun h2 => ?_)
   ·refine next_fin ?_ rfl
    rw [htok, wordTok, if_pos h2]
    rfl
   ·refine isName_spec _ htl ?_
    refine vci (fun h3 => ?_) (fun h3 => ?_)
    ·refine next_fin ?_ rfl
     rw [htok, wordTok, if_neg (by rw [h2]; simp), if_pos h3]
     rfl
    ·refine isType_spec _ htl ?_
     refine vci (fun h4 => ?_) (fun h4 => ?_)
     ·refine next_fin ?_ rfl
      rw [htok, wordTok, if_neg (by rw [h2]; simp), if_neg (by rw [h3]; simp), if_pos h4]
      rfl
     ·refine next_fin ?_ rfl
      rw [htok, wordTok, if_neg (by rw [h2]; simp), if_neg (by rw [h3]; simp), if_neg (by rw [h4]; simp)]
      exact ⟨0, _, rfl⟩
  ·have hnw : (isSmall s[at0] || isCapital s[at0]) = false := by rw [h1, h1']; rfl
   refine digit_spec s[at0] ?_
   refine vci (fun h2 => ?_) (fun h2 => ?_)
   ·have htok : tokF (s.drop at0) = numTok (s.drop at0) ((s.drop at0).take (spanN isDigit (s.drop at0))) (spanN isDigit (s.drop at0)) s[at0] := by
     rw [hd]; simp only [tokF, hnw, h2, if_true]; rfl
    have hsl' : (s.take (at0 + spanN isDigit (s.drop at0))).drop at0 = (s.drop at0).take (spanN isDigit (s.drop at0)) := by rw [List.drop_take]; congr 1; omega
    have hle' : at0 + spanN isDigit (s.drop at0) <= s.length := by have := spanN_le isDigit (s.drop at0); rw [List.length_drop] at this; omega
    refine span_spec digit_fn s at0 (by omega) hs ?_
    refine vnf rfl (vnf rfl (vni ⟨by omega, hle'⟩ ?_))
    refine vni (by repeat' (first | exact trivial | exact rfl | refine vnf rfl ?_ | refine vni ⟨by omega, by assumption⟩ ?_ | refine And.intro ?_ ?_)) ?_
    refine vni (by repeat' (first | exact trivial | exact rfl | refine vnf rfl ?_ | refine vni ⟨by omega, by assumption⟩ ?_ | refine And.intro ?_ ?_)) ?_
    refine vni (by repeat' (first | exact trivial | exact rfl | refine vnf rfl ?_ | refine vni ⟨by omega, by assumption⟩ ?_ | refine And.intro ?_ ?_)) ?_
    rw [<- hsl'] at htok
    have herr : ∀ {P : Prop} [Decidable P], P -> (if P then TokR.err 3 else TokR.ok 3 ((s.take (at0 + spanN isDigit (s.drop at0))).drop at0) (spanN isDigit (s.drop at0))) = .err 3 := fun h => if_pos h
    have fe : ∀ {v : V}, (∃ k t, VCR.ret v = .ret (.tup [tokV k t at0, intV at0, intV 3])) -> tokF (s.drop at0) = .err 3 -> nextP at0 (tokF (s.drop at0)) (.ret v) := fun h1 h2 => by rw [h2]; exact h1
    refine vci (fun hA => ?_) (fun hA => ?_)
    ·repeat refine vcp hA ?_
     refine next_fin (fe ⟨3, _, rfl⟩ ?_) rfl
     rw [htok, numTok, if_pos (.inl (dlt (a := 19) hA))]
    ·have nA := dnlt (a := 19) hA
     repeat refine vcn hA ?_
     refine vci (fun hB => ?_) (fun hB => ?_)
     ·have nB := dlt (a := 1) hB
      repeat (first | refine vcp hB ?_ | refine vcn hA ?_)
      refine vci (fun hC => ?_) (fun hC => ?_)
      ·have nC : s[at0] = 48 := UInt8.toNat_inj.1 (deq (b := 48) hC)
       repeat (first | refine vcp hC ?_ | refine vcn hA ?_)
       refine next_fin (fe ⟨3, _, rfl⟩ ?_) rfl
       rw [htok, numTok, if_pos (.inr (.inl ⟨nB, nC⟩))]
      ·have nC : s[at0] ≠ 48 := fun e => dneq (b := 48) hC (by rw [e]; rfl)
       repeat (first | refine vcn hC ?_ | refine vcn hA ?_)
       refine vci (fun hD => ?_) (fun hD => ?_)
       ·have nD : at0 + spanN isDigit (s.drop at0) < s.length := dlt hD
        have hdr : (s.drop at0).drop (spanN isDigit (s.drop at0)) = s[at0 + spanN isDigit (s.drop at0)] :: s.drop (at0 + spanN isDigit (s.drop at0) + 1) := by rw [List.drop_drop]; exact List.drop_eq_getElem_cons nD
        repeat (first | refine vcp hD ?_ | refine vcn hA ?_ | refine vcn hC ?_)
        refine vnf rfl (exf s[at0 + spanN isDigit (s.drop at0)] (by rw [nth_eq]; exact List.getElem?_eq_getElem nD) ?_)
        repeat (first | refine vcp hD ?_ | refine vcn hA ?_ | refine vcn hC ?_)
        refine word_spec s[at0 + spanN isDigit (s.drop at0)] ?_
        repeat (first | refine vcp hD ?_ | refine vcn hA ?_ | refine vcn hC ?_)
        refine vci (fun hE => ?_) (fun hE => ?_)
        ·repeat (first | refine vcp hE ?_ | refine vcn hA ?_ | refine vcn hC ?_)
         refine next_fin (fe ⟨3, _, rfl⟩ ?_) rfl
         rw [htok, numTok, if_pos (.inr (.inr (by rw [hdr]; exact hE)))]
        ·repeat (first | refine vcn hE ?_ | refine vcn hA ?_ | refine vcn hC ?_)
         refine next_fin ?_ rfl
         rw [htok, numTok, if_neg]
         ·rfl
         ·rintro (h | ⟨h, h'⟩ | h)
          ·omega
          ·exact nC h'
          ·rw [hdr] at h
           have hE : isWord s[at0 + spanN isDigit (s.drop at0)] = false := hE
           simp only [List.head?_cons, Option.any_some, hE] at h
           cases h
       ·have nD : s.length <= at0 + spanN isDigit (s.drop at0) := dnlt hD
        repeat (first | refine vcn hD ?_ | refine vcn hA ?_ | refine vcn hC ?_)
        refine next_fin ?_ rfl
        rw [htok, numTok, if_neg]
        ·rfl
        ·rintro (h | ⟨h, h'⟩ | h)
         ·omega
         ·exact nC h'
         ·rw [List.drop_drop, List.drop_of_length_le nD] at h
          cases h
     ·have nB := dnlt (a := 1) hB
      repeat (first | refine vcn hB ?_ | refine vcn hA ?_)
      refine vci (fun hD => ?_) (fun hD => ?_)
      ·have nD : at0 + spanN isDigit (s.drop at0) < s.length := dlt hD
       have hdr : (s.drop at0).drop (spanN isDigit (s.drop at0)) = s[at0 + spanN isDigit (s.drop at0)] :: s.drop (at0 + spanN isDigit (s.drop at0) + 1) := by rw [List.drop_drop]; exact List.drop_eq_getElem_cons nD
       repeat (first | refine vcp hD ?_ | refine vcn hA ?_ | refine vcn hB ?_)
       refine vnf rfl (exf s[at0 + spanN isDigit (s.drop at0)] (by rw [nth_eq]; exact List.getElem?_eq_getElem nD) ?_)
       repeat (first | refine vcp hD ?_ | refine vcn hA ?_ | refine vcn hB ?_)
       refine word_spec s[at0 + spanN isDigit (s.drop at0)] ?_
       repeat (first | refine vcp hD ?_ | refine vcn hA ?_ | refine vcn hB ?_)
       refine vci (fun hE => ?_) (fun hE => ?_)
       ·repeat (first | refine vcp hE ?_ | refine vcn hA ?_ | refine vcn hB ?_)
        refine next_fin (fe ⟨3, _, rfl⟩ ?_) rfl
        rw [htok, numTok, if_pos (.inr (.inr (by rw [hdr]; exact hE)))]
       ·repeat (first | refine vcn hE ?_ | refine vcn hA ?_ | refine vcn hB ?_)
        refine next_fin ?_ rfl
        rw [htok, numTok, if_neg]
        ·rfl
        ·rintro (h | ⟨h, h'⟩ | h)
         ·omega
         ·omega
         ·rw [hdr] at h
          have hE : isWord s[at0 + spanN isDigit (s.drop at0)] = false := hE
          simp only [List.head?_cons, Option.any_some, hE] at h
          cases h
      ·have nD : s.length <= at0 + spanN isDigit (s.drop at0) := dnlt hD
       repeat (first | refine vcn hD ?_ | refine vcn hA ?_ | refine vcn hB ?_)
       refine next_fin ?_ rfl
       rw [htok, numTok, if_neg]
       ·rfl
       ·rintro (h | ⟨h, h'⟩ | h)
        ·omega
        ·omega
        ·rw [List.drop_drop, List.drop_of_length_le nD] at h
         cases h
   ·have htok0 : tokF (s.drop at0) = if s[at0] = 34 then (match litF (s.drop (at0 + 1)) with
      | some (b, n) => .ok 4 b (n + 1)
      | none => .err 3) else if symOf (s.drop at0) = [] then .err 3 else .ok 6 (symOf (s.drop at0)) (symOf (s.drop at0)).length := by
     rw [hd]; simp only [tokF, hnw, h2]; rfl
    refine vci (fun h3 => ?_) (fun h3 => ?_)
    ·have e3 : s[at0] = 34 := UInt8.toNat_inj.1 (deq (b := 34) h3)
     rw [if_pos e3] at htok0
     refine literal_spec s at0 h0 hs ?_
     cases hl : litF (s.drop (at0 + 1)) with
     | none =>
      rw [hl] at htok0
      refine next_fin ?_ rfl
      rw [htok0]
      exact ⟨0, [], rfl⟩
     | some x =>
      obtain ⟨b, n⟩ := x
      rw [hl] at htok0
      refine next_fin ?_ rfl
      rw [htok0]
      show VCR.ret _ = VCR.ret (.tup [_, intV (at0 + (n + 1)), _])
      rw [show at0 + (n + 1) = at0 + 1 + n from by omega]
      rfl
    ·have e3 : s[at0] ≠ 34 := fun e => dneq (b := 34) h3 (by rw [e]; rfl)
     rw [if_neg e3] at htok0
     refine vnf rfl (vni ⟨by omega, Nat.le_refl _⟩ ?_)
     rw [List.take_length]
     refine symbol_spec (s.drop at0) ?_
     refine vci (fun h4 => ?_) (fun h4 => ?_)
     ·have e4 : symOf (s.drop at0) = [] := of_decide_eq_true h4
      refine next_fin ?_ rfl
      rw [htok0, if_pos e4]
      exact ⟨6, _, rfl⟩
     ·have e4 : symOf (s.drop at0) ≠ [] := of_decide_eq_false h4
      refine vni (by repeat' (first | exact trivial | exact rfl | refine vnf rfl ?_ | refine vni ⟨by omega, by assumption⟩ ?_ | refine And.intro ?_ ?_)) ?_
      refine vni (by repeat' (first | exact trivial | exact rfl | refine vnf rfl ?_ | refine vni ⟨by omega, by assumption⟩ ?_ | refine And.intro ?_ ?_)) ?_
      refine vni (by repeat' (first | exact trivial | exact rfl | refine vnf rfl ?_ | refine vni ⟨by omega, by assumption⟩ ?_ | refine And.intro ?_ ?_)) ?_
      refine vni (by repeat' (first | exact trivial | exact rfl | refine vnf rfl ?_ | refine vni ⟨by omega, by assumption⟩ ?_ | refine And.intro ?_ ?_)) ?_
      refine next_fin ?_ rfl
      rw [htok0, if_neg e4]
      have hsy : (symOf (s.drop at0)).length <= 3 := symOf_len _
      show VCR.ret (.tup [_, V.d (.int .i64 (IntKind.i64.wrap (Int.ofNat at0 + Int.ofNat (symOf (s.drop at0)).length))), _]) = VCR.ret (.tup [_, intV (at0 + (symOf (s.drop at0)).length), _])
      rw [wrap_add (by omega)]
      rfl
structure Tok where
 kind : Nat
 text : List UInt8
 off : Nat
def tokD (t : Tok) : List D := [.int .i64 (Int.ofNat t.kind), .str t.text, .int .i64 (Int.ofNat t.off)]
inductive LexR where
 | ok (l : List Tok)
 | err (off e : Nat)
def LexR.cons (t : Tok) : LexR -> LexR
 | .ok l => .ok (t :: l)
 | .err off e => .err off e
def LexR.app (a : List Tok) : LexR -> LexR
 | .ok l => .ok (a ++ l)
 | .err off e => .err off e
theorem LexR.app_nil (r : LexR) : r.app [] = r := by cases r <;> rfl
theorem LexR.app_cons (a : List Tok) (t : Tok) (r : LexR) : (r.cons t).app a = r.app (a ++ [t]) := by cases r <;> simp [LexR.cons, LexR.app]
def lexGo (s : List UInt8) : Nat -> Nat -> LexR
 | 0, _ => .ok []
 | f + 1, at0 =>
  if s.length <= at0 then .ok [⟨0, [], s.length⟩]
  else match tokF (s.drop at0) with
   | .err e => .err at0 e
   | .ok k t n => (lexGo s f (at0 + n + skipF false (s.drop (at0 + n)))).cons ⟨k, t, at0⟩
def lexF (s : List UInt8) : LexR := if 65536 < s.length then .err 0 7 else lexGo s (s.length + 1) (skipF false s)
theorem litF_len : ∀ (n : Nat) (l : List UInt8), l.length <= n -> ∀ b m, litF l = some (b, m) -> 1 <= m /\ m <= l.length := by
 intro n
 induction n with
 | zero =>
  intro l hl b m h
  cases l with
  | nil => rw [litF.eq_def] at h; cases h
  | cons _ _ => simp at hl
 | succ n ih =>
  intro l hl b m h
  cases l with
  | nil => rw [litF.eq_def] at h; cases h
  | cons c r =>
   have hr : r.length <= n := by simpa using hl
   have step : ∀ (q : List UInt8) (k : Nat) (x : UInt8), q.length + k <= r.length + 1 -> q.length <= n -> ((litF q).map fun z => (x :: z.1, z.2 + k)) = some (b, m) -> 1 <= m /\ m <= (c :: r).length := by
    intro q k x h1 h2 h3
    cases hq : litF q with
    | none => rw [hq] at h3; cases h3
    | some y =>
     rw [hq] at h3
     cases h3
     have := ih q h2 y.1 y.2 hq
     simp only [List.length_cons]
     omega
   by_cases h1 : c = 34
   ·subst h1; rw [litF_quote] at h; cases h; simp
   ·by_cases h2 : c < 32
    ·rw [litF_low h1 h2] at h; cases h
    ·by_cases h3 : c = 92
     ·subst h3
      rw [litF_esc] at h
      cases r with
      | nil => cases h
      | cons e r2 =>
       have hr2 : r2.length + 1 <= n := by simpa using hr
       simp only at h
       split at h
       ·exact step r2 2 _ (by simp) (by omega) h
       ·split at h
        ·exact step r2 2 _ (by simp) (by omega) h
        ·split at h
         ·cases r2 with
          | nil => cases h
          | cons x r3 =>
           cases r3 with
           | nil => cases h
           | cons y r4 =>
            simp only at h
            split at h
            ·exact step r4 4 _ (by simp) (by simp at hr2; omega) h
            ·cases h
         ·cases h
     ·rw [litF_plain h1 h2 h3] at h
      exact step r 1 c (by omega) hr h
theorem symOf_le (l : List UInt8) : (symOf l).length <= l.length := by
 unfold symOf
 split
 ·rename_i x h
  have := List.find?_some h
  have : hasPre l x = true := this
  rw [hasPre, List.isPrefixOf_iff_prefix] at this
  exact this.length_le
 ·split
  ·simp
  ·split <;> simp
theorem small_word {c : UInt8} (h : (isSmall c || isCapital c) = true) : isWord c = true := by
 simp only [isWord]
 rw [h]; rfl
theorem tokF_len {l : List UInt8} {k n : Nat} {t : List UInt8} (h : tokF l = .ok k t n) : 0 < n /\ n <= l.length := by
 cases l with
 | nil => cases h
 | cons c r =>
  simp only [tokF] at h
  have hw := spanN_le isWord (c :: r)
  have hdl := spanN_le isDigit (c :: r)
  split at h
  ·rename_i hc
   have hp : 0 < spanN isWord (c :: r) := by rw [spanN_cons, if_pos (small_word hc)]; omega
   unfold wordTok at h
   split at h
   ·cases h; exact ⟨hp, hw⟩
   ·split at h
    ·cases h; exact ⟨hp, hw⟩
    ·split at h
     ·cases h; exact ⟨hp, hw⟩
     ·cases h
  ·split at h
   ·rename_i hc
    have hp : 0 < spanN isDigit (c :: r) := by rw [spanN_cons, if_pos hc]; omega
    unfold numTok at h
    split at h
    ·cases h
    ·cases h; exact ⟨hp, hdl⟩
   ·split at h
    ·split at h
     ·rename_i b m hl
      cases h
      have := litF_len _ _ (Nat.le_refl _) _ _ hl
      simp only [List.length_cons]
      omega
     ·cases h
    ·split at h
     ·cases h
     ·rename_i hne
      cases h
      exact ⟨List.length_pos_iff.2 hne, symOf_le _⟩
def lexP (x : LexR) (r : VCR) : Prop := match x with
 | .ok l => ∃ b cap, r = .ret (.tup [.d (.ps b 0 3 cap (l.map tokD)), intV 0, intV 0])
 | .err off e => r = .ret (.tup [.d .nils, intV off, intV e])
def xfz : Nat -> Bool := fun t => Nat.beq t 22
def tokRow (acc : List Tok) : VObj := .row 3 (acc.map fun t => (tokD t).map V.d)
def outV : List Tok -> V
 | [] => .d .nils
 | _ :: r => .ms 7 3 0 (r.length + 1) (r.length + 1)
def lexS (s : List UInt8) (L : VLoop) : List Tok -> VS
 | [] => [.box [.d .nils], .box [.d (.int .i64 0)], .box [.d (.int .i64 0)], .box [.d .nils], .box [strV s], .defl false, .loop L]
 | c :: r => [.box [.d .nils], .box [.d (.int .i64 0)], .box [.d (.int .i64 0)], .box [.ms 7 3 0 (r.length + 1) (r.length + 1)], .box [strV s], .defl false, .loop L, tokRow (c :: r)]
def lexInv (s : List UInt8) (x : Nat × List Tok) : Prop :=
 x.1 <= s.length /\ x.2.length <= x.1 /\ ∃ f, s.length - x.1 < f /\ lexGo s (s.length + 1) (skipF false s) = (lexGo s f x.1).app x.2
theorem lex_step {s : List UInt8} {i f k n : Nat} {t : List UInt8} {acc : List Tok} (hl : i < s.length) (hf : s.length - i < f + 1) (hal : acc.length <= i) (ht : tokF (s.drop i) = .ok k t n)
  (hp : lexGo s (s.length + 1) (skipF false s) = (lexGo s (f + 1) i).app acc) : lexInv s (i + n + skipF false (s.drop (i + n)), acc ++ [⟨k, t, i⟩]) := by
 have hn := tokF_len ht
 rw [List.length_drop] at hn
 have hsk2 := skipF_le false (s.drop (i + n))
 rw [List.length_drop] at hsk2
 refine ⟨by show i + n + skipF false (s.drop (i + n)) <= s.length; omega, by show (acc ++ [_]).length <= i + n + skipF false (s.drop (i + n)); simp; omega, f, by show s.length - (i + n + skipF false (s.drop (i + n))) < f; omega, ?_⟩
 rw [hp]
 show _ = (lexGo s f (i + n + skipF false (s.drop (i + n)))).app (acc ++ [⟨k, t, i⟩])
 rw [<- LexR.app_cons]
 congr 1
 rw [lexGo, if_neg (by omega), ht]
theorem tokF_err {l : List UInt8} {e : Nat} (h : tokF l = .err e) : e ≠ 0 := by
 cases l with
 | nil => cases h; decide
 | cons c r =>
  simp only [tokF, wordTok, numTok] at h
  repeat' split at h
  all_goals first | (cases h; decide) | cases h
theorem lex_err {s : List UInt8} {i f e : Nat} {acc : List Tok} (h : s.length <= 65536) (hl : i < s.length) (ht : tokF (s.drop i) = .err e)
  (hp : lexGo s (s.length + 1) (skipF false s) = (lexGo s (f + 1) i).app acc) : lexF s = .err i e := by
 rw [lexF, if_neg (by omega), hp, lexGo, if_neg (by omega), ht]
 rfl
theorem lex_ok {s : List UInt8} {i f : Nat} {acc : List Tok} (h : s.length <= 65536) (hl : s.length <= i)
  (hp : lexGo s (s.length + 1) (skipF false s) = (lexGo s (f + 1) i).app acc) : lexF s = .ok (acc ++ [⟨0, [], s.length⟩]) := by
 rw [lexF, if_neg (by omega), hp, lexGo, if_pos hl]
 rfl
theorem nz_of {e : Nat} (h : (!decide (Int.ofNat e = 0)) = false) : e = 0 := by
 rw [Bool.not_eq_false'] at h
 exact deq (b := 0) h
theorem renO_toks (π : Nat -> Nat) (acc : List Tok) : renO π (tokRow acc) = tokRow acc := by
 simp only [tokRow, renO]
 congr 1
 rw [List.map_map]
 exact List.map_congr_left fun c _ => rfl
theorem bd_toks (k : Nat) (acc : List Tok) : bdO k (tokRow acc) = true := by
 simp only [tokRow, bdO, List.all_map]
 exact List.all_eq_true.2 fun c _ => rfl
theorem drows_toks (acc : List Tok) : drows (acc.map fun t => (tokD t).map V.d) = some (acc.map tokD) := by
 induction acc with
 | nil => rfl
 | cons t r ih =>
  show (match some (tokD t), drows (r.map fun t => (tokD t).map V.d) with
   | some a, some l => some (a :: l)
   | _, _ => none) = _
  rw [ih]
  rfl
theorem nbeq_self (n : Nat) : Nat.beq n n = true := Nat.beq_refl n
theorem lex_end {σ : VS} (i : Nat) (acc : List Tok) (n : Nat) (hn : n = acc.length) (h : nth σ i = some (tokRow acc)) :
  VUpd 0 (.ret (.tup [.ms i 3 0 n n, intV 0, intV 0])) σ fun r σ' => σ' = [] /\ closedCR r = true /\ lexP (.ok acc) r := by
 refine VUpd.freeze i h (drows_toks acc) ⟨fun _ => ⟨rfl, by simp [hn]⟩, trivial, trivial, trivial⟩ (fun b => ?_)
 refine VUpd.drop 0 (by cases σ.set i VObj.gone <;> rfl) (by rw [bdS]) ?_ ?_
 ·show bdCR 0 (.ret (.tup [fzV i b (acc.map tokD) (.ms i 3 0 n n), intV 0, intV 0])) = true
  rw [fzV, nbeq_self]
  rfl
 ·refine VUpd.now rfl ⟨rfl, ?_, b, n, ?_⟩
  ·show closedCR (.ret (.tup [fzV i b (acc.map tokD) (.ms i 3 0 n n), intV 0, intV 0])) = true
   rw [fzV, nbeq_self]
   rfl
  ·show VCR.ret (.tup [fzV i b (acc.map tokD) (.ms i 3 0 n n), intV 0, intV 0]) = _
   rw [fzV, nbeq_self]
   show VCR.ret (.tup [.d (.ps b (0 * 3) 3 n (((acc.map tokD).drop 0).take n)), intV 0, intV 0]) = _
   rw [take_self _ _ (by simp [hn])]
theorem grow_toks0 (acc : List Tok) (n : Nat) (hn : n = acc.length) (t : Tok) : some (VObj.row 3 (((acc.map fun t => (tokD t).map V.d).drop 0).take n ++ [(tokD t).map V.d])) = some (tokRow (acc ++ [t])) := by
 rw [tokRow, List.map_append, take_self _ _ (by simp [hn])]
 rfl
theorem grow_toks {π : Nat -> Nat} (acc : List Tok) (n : Nat) (hn : n = acc.length) (t : Tok) : some (VObj.row 3 (((acc.map fun t => (tokD t).map V.d).drop 0).take n ++ [(tokD t).map V.d])) = some (renO π (tokRow (acc ++ [t]))) := by
 rw [renO_toks, grow_toks0 acc n hn t]
theorem lex_out (r : List Tok) (t : Tok) : some (VObj.box [.ms 10 3 0 (r.length + 1 + 1) (r.length + 1 + 1)]) = some (VObj.box [.ms 10 3 0 ((r ++ [t]).length + 1) ((r ++ [t]).length + 1)]) := by simp
theorem lex_fit {i n : Nat} {r : List Tok} {a : Tok} (h : (a :: r).length <= i) (h' : i <= 65536) (hn : n = 1) : (r.length + 1 + n) * 32 <= limit /\ r.length + 1 + n <= limit := by
 simp only [List.length_cons] at h
 unfold limit
 omega
set_option maxHeartbeats 2000000 in
theorem lex_spec (s : List UInt8) (hs : s.length < 4294967296) {σ : VS} {K : VCR -> VS -> Prop} (hk : ∀ r, lexP (lexF s) r -> K r σ) : VCall C intr0 F.lexer_Lex [strV s] σ K := by
 refine VCall.closed (P := lexP (lexF s)) ?_ rfl hk
 refine VCall.b1 xfz (fun _ => rfl) ?_
 refine vci (fun h => ?_) (fun h => ?_)
 ·have h' := dlt (a := 65536) h
  refine VUpd.drop 0 rfl rfl rfl (VUpd.now rfl ⟨rfl, rfl, ?_⟩)
  rw [lexF, if_pos h']
  rfl
 ·have h' := dnlt (a := 65536) h
  refine VCall.b0 nofz (fun _ => rfl) ?_
  refine VCall.b0 nofz (fun _ => rfl) ?_
  refine blanks_spec s 0 (by omega) (by omega) ?_
  have hsk := skipF_le false s
  refine VCode.less (tm0 := [(3, intV (skipF false s)), (0, .yld 6), (1, .bp 4 0)]) ⟨int_eq (by rw [Nat.zero_add]; rfl), rfl, rfl, trivial⟩ ?_
  refine VCode.iter (fun x : Nat × List Tok => [(3, intV x.1), (0, .yld 6), (1, .bp 4 0)]) (fun x => lexS s _ x.2) (fun x => s.length - x.1) (lexInv s) ?_ (skipF false s, []) ⟨hsk, Nat.zero_le _, s.length + 1, by omega, (LexR.app_nil _).symm⟩
  rintro ⟨i, acc⟩ ⟨hi, hal, f, hf, hp⟩
  have hi : i <= s.length := hi
  have hal : acc.length <= i := hal
  have hf : s.length - i < f := hf
  have hp : lexGo s (s.length + 1) (skipF false s) = (lexGo s f i).app acc := hp
  obtain ⟨f, rfl⟩ : ∃ k, f = k + 1 := ⟨f - 1, by omega⟩
  cases acc with
  | nil =>
   refine vci (fun h => ?_) (fun h => ?_)
   ·have hl : i < s.length := dlt h
    refine next_spec s i hl (by omega) (fun r hr => ?_)
    cases ht : tokF (s.drop i) with
    | ok k t n =>
     rw [ht] at hr
     obtain rfl : r = _ := hr
     refine VRound.intro ?_
     have hn := tokF_len ht
     rw [List.length_drop] at hn
     intro b
     refine vni rfl (vni ⟨Nat.le_of_ble_eq_true rfl, Nat.le_of_ble_eq_true rfl⟩ ?_)
     refine blanks_spec s (i + n) (by omega) (by omega) ?_
     have hsk2 := skipF_le false (s.drop (i + n))
     rw [List.length_drop] at hsk2
     refine ⟨(i + n + skipF false (s.drop (i + n)), [] ++ [⟨k, t, i⟩]), ?_, ?_, ?_, rfl, rfl⟩
     ·exact lex_step (acc := []) hl hf hal ht hp
     ·show s.length - (i + n + skipF false (s.drop (i + n))) < s.length - i
      omega
     ·exact .pick 7 [0, 1, 2, 3, 4, 5, 6, 9] ⟨rfl, rfl, rfl, trivial⟩ rfl rfl rfl rfl rfl (by decide) ⟨rfl, rfl, rfl, rfl, rfl, rfl, rfl, rfl, rfl, rfl, rfl, rfl, rfl, rfl, rfl, rfl, trivial⟩
    | err e =>
     rw [ht] at hr
     obtain ⟨k, t, rfl⟩ := hr
     refine VRound.intro ?_
     have he := tokF_err ht
     refine vci (fun h9 => ?_) (fun h9 => ?_)
     ·repeat refine vni (by repeat' (first | exact trivial | exact rfl | refine vnf rfl ?_ | refine vni ⟨by omega, by assumption⟩ ?_ | refine And.intro ?_ ?_)) ?_
      refine VUpd.drop 0 ?_ ?_ ?_ ?_
      iterate 3 exact rfl
      refine VUpd.now rfl ⟨rfl, rfl, ?_⟩
      rw [lex_err h' hl ht hp]
      rfl
     ·exact absurd (nz_of h9) he
   ·have hl : s.length <= i := dnlt h
    refine VRound.intro ?_
    intro b
    refine vni rfl (vni ⟨Nat.le_of_ble_eq_true rfl, Nat.le_of_ble_eq_true rfl⟩ ?_)
    rw [lex_ok h' hl hp]
    exact lex_end 8 [⟨0, [], s.length⟩] 1 rfl rfl
  | cons a r =>
   refine vci (fun h => ?_) (fun h => ?_)
   ·have hl : i < s.length := dlt h
    refine next_spec s i hl (by omega) (fun z hr => ?_)
    cases ht : tokF (s.drop i) with
    | ok k t n =>
     rw [ht] at hr
     obtain rfl : z = _ := hr
     refine VRound.intro ?_
     have hn := tokF_len ht
     rw [List.length_drop] at hn
     intro b
     refine vni rfl (vni ⟨rfl, rfl, by simp [tokRow], Nat.le_refl _, lex_fit hal (by omega) rfl⟩ ?_)
     refine vcn rfl (vcn (lit_full (r.length + 1)) ?_)
     refine blanks_spec s (i + n) (by omega) (by omega) ?_
     have hsk2 := skipF_le false (s.drop (i + n))
     rw [List.length_drop] at hsk2
     refine ⟨(i + n + skipF false (s.drop (i + n)), (a :: r) ++ [⟨k, t, i⟩]), ?_, ?_, ?_, rfl, rfl⟩
     ·exact lex_step hl hf hal ht hp
     ·show s.length - (i + n + skipF false (s.drop (i + n))) < s.length - i
      omega
     ·refine .pick 7 [0, 1, 2, 3, 4, 5, 6, 10] ⟨rfl, rfl, rfl, trivial⟩ rfl rfl rfl rfl rfl (by decide) ⟨rfl, rfl, rfl, rfl, rfl, rfl, ?_, rfl, rfl, rfl, rfl, rfl, rfl, rfl, ?_, bd_toks _ _, trivial⟩
      ·exact lex_out r ⟨k, t, i⟩
      ·exact grow_toks (a :: r) (r.length + 1) rfl ⟨k, t, i⟩
    | err e =>
     rw [ht] at hr
     obtain ⟨k, t, rfl⟩ := hr
     refine VRound.intro ?_
     have he := tokF_err ht
     refine vci (fun h9 => ?_) (fun h9 => ?_)
     ·repeat refine vni (by repeat' (first | exact trivial | exact rfl | refine vnf rfl ?_ | refine vni ⟨by omega, by assumption⟩ ?_ | refine And.intro ?_ ?_)) ?_
      refine VUpd.drop 0 ?_ ?_ ?_ ?_
      iterate 3 exact rfl
      refine VUpd.now rfl ⟨rfl, rfl, ?_⟩
      rw [lex_err h' hl ht hp]
      rfl
     ·exact absurd (nz_of h9) he
   ·have hl : s.length <= i := dnlt h
    refine VRound.intro ?_
    intro b
    refine vni rfl (vni ⟨rfl, rfl, by simp [tokRow], Nat.le_refl _, lex_fit hal (by omega) rfl⟩ ?_)
    refine vcn rfl (vcn (lit_full (r.length + 1)) ?_)
    rw [lex_ok h' hl hp]
    refine lex_end 9 (a :: r ++ [⟨0, [], s.length⟩]) (r.length + 1 + 1) (by simp) ?_
    exact grow_toks0 (a :: r) (r.length + 1) rfl ⟨0, [], s.length⟩
end Go.Proofs.YthfehkcfhiilfaaGreatDoor
