/- Contract of the reader's typ, part one. -/
import Derived.Test.YthfehkcfhiilfaaGreatDoorKRb
namespace Go.Proofs.YthfehkcfhiilfaaGreatDoor set_option linter.unusedSimpArgs false set_option linter.unusedVariables false
open Go.AM Go.VM
theorem TypOk.up {ty : Nat -> PR Ty} {R : Rd} {lo lo' : Nat} (h : TypOk ty R lo) (hl : lo <= lo') : TypOk ty R lo' :=
 ⟨fun p t q h1 h2 h3 => h.lt p t q (by omega) h2 h3, fun p h1 h2 => h.call p (by omega) h2⟩
theorem argsLoop_lt {ty : Nat -> PR Ty} {R : Rd} (w : R.Wf) {lo : Nat} (ht : ∀ p t q, lo <= p -> p < R.ts.length -> ty p = .ok t q -> p < q /\ q < R.ts.length) :
  ∀ (f : Nat) (acc : List Ty) (p : Nat) (l : List Ty) (q : Nat), lo <= p -> p < R.ts.length -> argsLoop ty R f acc p = .ok l q -> p <= q /\ q < R.ts.length := by
 intro f
 induction f with
 | zero => intro acc p l q _ _ h; cases h
 | succ f ih =>
  intro acc p l q hl hp h
  rw [argsLoop] at h
  cases e1 : ty p with
  | bad o e => rw [e1] at h; cases h
  | ok t q1 =>
   rw [e1] at h
   obtain ⟨g1, g2⟩ := ht p t q1 hl hp e1
   dsimp only at h
   split at h
   ·rename_i h2
    obtain ⟨a, b⟩ := ih _ _ _ _ (by omega) (w.step g2 h2) h
    exact ⟨by omega, b⟩
   ·cases hn : needF R [[93]] q1 with
    | bad o e => rw [hn] at h; cases h
    | ok u q2 =>
     rw [hn] at h
     cases h
     have := needF_mono _ _ _ hn
     exact ⟨by omega, needF_lt w _ _ _ g2 hn⟩
theorem argsF_lt {ty : Nat -> PR Ty} {R : Rd} (w : R.Wf) {p : Nat} (ht : ∀ p' t q, p <= p' -> p' < R.ts.length -> ty p' = .ok t q -> p' < q /\ q < R.ts.length) (hp : p < R.ts.length) {l : List Ty} {q : Nat} (h : argsF ty R p = .ok l q) : p <= q /\ q < R.ts.length := by
 rw [argsF] at h
 split at h
 ·rename_i h2
  obtain ⟨a, b⟩ := argsLoop_lt w ht _ _ _ _ _ (by omega) (w.step hp h2) h
  exact ⟨by omega, b⟩
 ·cases h; exact ⟨Nat.le_refl _, hp⟩
theorem fieldsLoop_lt {ty : Nat -> PR Ty} {R : Rd} (w : R.Wf) {lo : Nat} (ht : ∀ p t q, lo <= p -> p < R.ts.length -> ty p = .ok t q -> p < q /\ q < R.ts.length) (sep fin : List UInt8) (opt : Bool) :
  ∀ (f : Nat) (acc : List Fld) (p : Nat) (l : List Fld) (q : Nat), lo <= p -> p < R.ts.length -> fieldsLoop ty R sep fin opt f acc p = .ok l q -> p <= q /\ q < R.ts.length := by
 intro f
 induction f with
 | zero => intro acc p l q _ _ h; cases h
 | succ f ih =>
  intro acc p l q hl hp h
  rw [fieldsLoop] at h
  split at h
  ·cases h
  ·rename_i hk
   have hk : (R.tok p).kind = 1 := by simpa using hk
   have hq1 : p + 1 < R.ts.length := w.go p _ (Rd.tok_some hp) (by omega)
   split at h
   ·cases h
   ·have hq2 : (if opt && isTok (R.tok (p + 1)) [63] then p + 1 + 1 else p + 1) < R.ts.length := by
     split
     ·rename_i hh
      rw [Bool.and_eq_true] at hh
      exact w.step hq1 hh.2
     ·exact hq1
    have hm2 : p + 1 <= (if opt && isTok (R.tok (p + 1)) [63] then p + 1 + 1 else p + 1) := by split <;> omega
    cases hn : needF R [[58]] (if opt && isTok (R.tok (p + 1)) [63] then p + 1 + 1 else p + 1) with
    | bad o e => rw [hn] at h; cases h
    | ok u q2 =>
     rw [hn] at h
     dsimp only at h
     have hq3 := needF_lt w _ _ _ hq2 hn
     have hm3 := needF_mono _ _ _ hn
     cases e1 : ty q2 with
     | bad o e => rw [e1] at h; cases h
     | ok t q1 =>
      rw [e1] at h
      dsimp only at h
      obtain ⟨g1, g2⟩ := ht q2 t q1 (by omega) hq3 e1
      split at h
      ·rename_i h3
       cases h
       exact ⟨by omega, w.step g2 h3⟩
      ·cases hn2 : needF R [sep] q1 with
       | bad o e => rw [hn2] at h; cases h
       | ok u q3 =>
        rw [hn2] at h
        have hm4 := needF_mono _ _ _ hn2
        obtain ⟨a, b⟩ := ih _ _ _ _ (by omega) (needF_lt w _ _ _ g2 hn2) h
        exact ⟨by omega, b⟩
theorem fieldsF_lt {ty : Nat -> PR Ty} {R : Rd} (w : R.Wf) {p : Nat} (ht : ∀ p' t q, p <= p' -> p' < R.ts.length -> ty p' = .ok t q -> p' < q /\ q < R.ts.length) {sep fin : List UInt8} {opt : Bool} (hp : p < R.ts.length) {l : List Fld} {q : Nat} (h : fieldsF ty R sep fin opt p = .ok l q) : p <= q /\ q < R.ts.length := by
 rw [fieldsF] at h
 split at h
 ·rename_i h2
  cases h
  exact ⟨by omega, w.step hp h2⟩
 ·cases hl : fieldsLoop ty R sep fin opt R.ts.length [] p with
  | bad o e => rw [hl] at h; cases h
  | ok l' q' =>
   rw [hl] at h
   cases h
   exact fieldsLoop_lt w ht sep fin opt _ _ _ _ _ (Nat.le_refl _) hp hl
theorem bracketF_lt {ty : Nat -> PR Ty} {R : Rd} (w : R.Wf) {p : Nat} (ht : ∀ p' t q, p <= p' -> p' < R.ts.length -> ty p' = .ok t q -> p' < q /\ q < R.ts.length) (hp : p < R.ts.length) {l : Ty} {q : Nat} (h : bracketF ty R p = .ok l q) : p <= q /\ q < R.ts.length := by
 rw [bracketF] at h
 cases hn : needF R [[91]] p with
 | bad o e => rw [hn] at h; cases h
 | ok u q1 =>
  rw [hn] at h
  dsimp only at h
  have hm := needF_mono _ _ _ hn
  have hq := needF_lt w _ _ _ hp hn
  cases e1 : ty q1 with
  | bad o e => rw [e1] at h; cases h
  | ok t q2 =>
   rw [e1] at h
   dsimp only at h
   obtain ⟨g1, g2⟩ := ht q1 t q2 (by omega) hq e1
   cases hn2 : needF R [[93]] q2 with
   | bad o e => rw [hn2] at h; cases h
   | ok u q3 =>
    rw [hn2] at h
    cases h
    have hm2 := needF_mono _ _ _ hn2
    exact ⟨by omega, needF_lt w _ _ _ g2 hn2⟩
set_option maxHeartbeats 4000000 in
theorem fields_spec (R : Rd) (w : R.Wf) (ty : Nat -> PR Ty) (sep fin : List UInt8) (opt : Bool) (p : Nat) (hp : p < R.ts.length) (ht : TypOk ty R p) (i : Nat) {σ : VS} {K : VCR -> VS -> Prop} (hσ : nth σ i = some (rdO R p))
  (h1 : ∀ l d q, fieldsF ty R sep fin opt p = .ok l q -> FlsD l d -> K (.ret (.d d)) (σ.set i (rdO R q))) (h2 : ∀ off e q, fieldsF ty R sep fin opt p = .bad off e -> K (.pan (wrongV off e)) (σ.set i (rdO R q))) : VCall C intr0 F.reader_fields [.bp i 0, strV sep, strV fin, boolV opt] σ K := by
 refine VCall.one (args0 := [.bp 0 0, strV sep, strV fin, boolV opt]) (P := fun r cs => fldK R (fieldsF ty R sep fin opt p) r [.box cs]) ((fields_spec0 R w ty sep fin opt p hp ht).mono fun r σ' h => ?_) i hσ rfl rfl rfl (fun r cs' h => ?_)
 ·have h' := h
  unfold fldK at h
  split at h
  ·obtain ⟨rfl, d, h2, rfl⟩ := h
   exact ⟨_, rfl, rfl, rfl, h'⟩
  ·obtain ⟨q, rfl, rfl⟩ := h
   exact ⟨_, rfl, rfl, rfl, h'⟩
 ·unfold fldK at h
  split at h
  ·rename_i l q e
   obtain ⟨e2, d, hd, rfl⟩ := h
   have : cs' = rdC R q := by injection e2 with e3; injection e3
   subst this
   exact h1 l d q e hd
  ·rename_i off er e
   obtain ⟨q, e2, rfl⟩ := h
   have : cs' = rdC R q := by injection e2 with e3; injection e3
   subst this
   exact h2 off er q e
set_option maxHeartbeats 4000000 in
theorem bracket_spec (R : Rd) (w : R.Wf) (ty : Nat -> PR Ty) (p : Nat) (hp : p < R.ts.length) (ht : TypOk ty R p) (i : Nat) {σ : VS} {K : VCR -> VS -> Prop} (hσ : nth σ i = some (rdO R p))
  (h1 : ∀ t d q, bracketF ty R p = .ok t q -> TyD t d -> K (.ret (.agg (d.map V.d))) (σ.set i (rdO R q))) (h2 : ∀ off e q, bracketF ty R p = .bad off e -> K (.pan (wrongV off e)) (σ.set i (rdO R q))) : VCall C intr0 F.reader_bracket [.bp i 0] σ K := by
 refine VCall.one (args0 := [.bp 0 0]) (P := tyK R (bracketF ty R p)) (bracket_spec0 R w ty p hp ht) i hσ rfl rfl rfl (fun r cs' h => ?_)
 unfold tyK at h
 split at h
 ·rename_i t q e
  obtain ⟨rfl, d, hd, rfl⟩ := h
  exact h1 t d q e hd
 ·rename_i off er e
  obtain ⟨q, rfl, rfl⟩ := h
  exact h2 off er q e
def basicK (s : List UInt8) : Option Nat :=
 if s = [105, 110, 116] then some 2 else if s = [98, 111, 111, 108] then some 3 else if s = [116, 101, 120, 116] then some 4 else if s = [97, 110, 121] then some 0 else if s = [110, 111, 110, 101] then some 1 else none
def baseE : List VEnt := [⟨strV [105, 110, 116], intV 2, 0⟩, ⟨strV [98, 111, 111, 108], intV 3, 1⟩, ⟨strV [116, 101, 120, 116], intV 4, 2⟩, ⟨strV [97, 110, 121], intV 0, 3⟩, ⟨strV [110, 111, 110, 101], intV 1, 4⟩]
theorem vfind_step {s a : List UInt8} {v : V} {b i : Nat} {r : List VEnt} : vfind .string (strV s) (⟨strV a, v, b⟩ :: r) i = match decide (s = a) with
   | true => some (some (i, v))
   | false => vfind .string (strV s) r (i + 1) := rfl
theorem find_basic (s : List UInt8) : vfind .string (strV s) baseE 0 = some none ∨ ∃ j k, vfind .string (strV s) baseE 0 = some (some (j, intV k)) := by
 unfold baseE
 rw [vfind_step]
 cases decide (s = [105, 110, 116]) with
 | true => exact .inr ⟨_, _, rfl⟩
 | false =>
  dsimp only
  rw [vfind_step]
  cases decide (s = [98, 111, 111, 108]) with
  | true => exact .inr ⟨_, _, rfl⟩
  | false =>
   dsimp only
   rw [vfind_step]
   cases decide (s = [116, 101, 120, 116]) with
   | true => exact .inr ⟨_, _, rfl⟩
   | false =>
    dsimp only
    rw [vfind_step]
    cases decide (s = [97, 110, 121]) with
    | true => exact .inr ⟨_, _, rfl⟩
    | false =>
     dsimp only
     rw [vfind_step]
     cases decide (s = [110, 111, 110, 101]) with
     | true => exact .inr ⟨_, _, rfl⟩
     | false => exact .inl rfl
theorem find_none5 {s : List UInt8} (h : basicK s = none) : vfind .string (strV s) baseE 0 = some none := by
 unfold basicK at h
 have h1 : s ≠ [105, 110, 116] := fun e => by rw [if_pos e] at h; cases h
 rw [if_neg h1] at h
 have h2 : s ≠ [98, 111, 111, 108] := fun e => by rw [if_pos e] at h; cases h
 rw [if_neg h2] at h
 have h3 : s ≠ [116, 101, 120, 116] := fun e => by rw [if_pos e] at h; cases h
 rw [if_neg h3] at h
 have h4 : s ≠ [97, 110, 121] := fun e => by rw [if_pos e] at h; cases h
 rw [if_neg h4] at h
 have h5 : s ≠ [110, 111, 110, 101] := fun e => by rw [if_pos e] at h; cases h
 unfold baseE
 rw [vfind_step, decide_eq_false h1, vfind_step, decide_eq_false h2, vfind_step, decide_eq_false h3, vfind_step, decide_eq_false h4, vfind_step, decide_eq_false h5]
 rfl
def typB (ty : Nat -> PR Ty) (R : Rd) (kind : Nat) (text : List UInt8) (off q : Nat) : PR Ty :=
 if kind = 5 then match basicK text with
  | some k => .ok (.mk k [] [] [] []) q
  | none => if text = [108, 105, 115, 116] then (bracketF ty R q).map fun t => .mk 5 [] [] [t] []
   else if text = [102, 110] then match needF R [[40]] q with
    | .bad o e => .bad o e
    | .ok _ q1 => match fieldsF ty R [44] [41] true q1 with
     | .bad o e => .bad o e
     | .ok l q2 => (ty q2).map fun t => .mk 8 [] [] [t] l
   else .bad off 3
 else if kind = 6 then
  if text = [123] then (fieldsF ty R [44] [125] false q).map fun l => .mk 6 [] [] [] l
  else if text = [60] then (fieldsF ty R [124] [62] false q).map fun l => .mk 7 [] [] [] l
  else .bad off 3
 else if kind = 2 then (argsF ty R q).map fun l => .mk 10 [] text l []
 else if kind = 1 then match needF R [[58, 58]] q with
  | .bad o e => .bad o e
  | .ok _ q1 => if (R.tok q1).kind ≠ 2 then .bad (R.tok q1).off 3 else (argsF ty R (q1 + 1)).map fun l => .mk 10 text (R.tok q1).text l []
 else .bad off 3
def typF (R : Rd) : Nat -> Nat -> PR Ty
 | 0, _ => .bad 0 3
 | f + 1, p => typB (typF R f) R (R.tok p).kind (R.tok p).text (R.tok p).off (p + 1)
def typfz : Nat -> Bool := fun t => Nat.beq t 37 || Nat.beq t 49 || Nat.beq t 56 || Nat.beq t 96
theorem dec_no {a b : Nat} (h : a ≠ b) : decide (Int.ofNat a = Int.ofNat b) = false := decide_eq_false (by simp only [Int.ofNat_eq_natCast]; omega)
set_option maxRecDepth 100000 in
set_option maxHeartbeats 16000000 in
theorem typ_c0 (R : Rd) (w : R.Wf) (f p : Nat) (hp : p < R.ts.length) (ht : TypOk (typF R f) R (p + 1)) (kind : Nat) (text : List UInt8) (off : Nat) (htk : R.ts[p]? = some ⟨kind, text, off⟩) (hF : typF R (f + 1) p = typB (typF R f) R kind text off (p + 1)) (h5 : kind = 5) (ht5 : text = [105, 110, 116]) :
  VCall C intr0 F.reader_typ [.bp 0 0] [rdO R p] fun r σ' => ∃ cs', σ' = [.box cs'] /\ closedCR r = true /\ bdL 0 cs' = true /\ tyK R (typF R (f + 1) p) r cs' := by
 have hlen := w.len
 have hgo : kind ≠ 0 -> p + 1 < R.ts.length := fun h => w.go p _ htk h
 have hst : kind ≠ 0 -> stepP ⟨kind, text, off⟩ p = p + 1 := fun h => if_neg h
 refine VCall.b1 typfz (fun _ => rfl) ?_
 refine take_spec R p _ htk (by omega) 0 rfl ?_
 first | have hq0 : p + 1 < R.ts.length := hgo (by omega) | skip
 first | rw [hst (by omega)] | skip
 subst h5
 subst ht5
 have hfd : vfind .string (strV [105, 110, 116]) baseE 0 = some (some (0, intV 2)) := rfl
 repeat refine vni (by repeat' (first | exact trivial | exact rfl | refine vnf rfl ?_ | refine exf _ hfd ?_ | refine And.intro ?_ ?_)) ?_
 refine VCall.b0 nofz (fun _ => rfl) ?_
 refine exf none rfl ?_
 refine exf none rfl ?_
 refine exf none rfl ?_
 refine exf none rfl ?_
 refine exf none rfl ?_
 refine exf _ hfd ?_
 repeat refine vni (by repeat' (first | exact trivial | exact rfl | refine vnf rfl ?_ | refine exf _ hfd ?_ | refine And.intro ?_ ?_)) ?_
 refine VUpd.drop 1 ?_ ?_ ?_ ?_
 iterate 3 exact rfl
 refine VUpd.now rfl ⟨_, rfl, rfl, rfl, ?_⟩
 rw [hF]
 simp only [typB, if_true, if_false, reduceIte, Nat.reduceEqDiff, PR.map]
 exact ⟨rfl, _, .mk .nil .nil, rfl⟩
set_option maxRecDepth 100000 in
set_option maxHeartbeats 16000000 in
theorem typ_c1 (R : Rd) (w : R.Wf) (f p : Nat) (hp : p < R.ts.length) (ht : TypOk (typF R f) R (p + 1)) (kind : Nat) (text : List UInt8) (off : Nat) (htk : R.ts[p]? = some ⟨kind, text, off⟩) (hF : typF R (f + 1) p = typB (typF R f) R kind text off (p + 1)) (h5 : kind = 5) (ht5 : text = [98, 111, 111, 108]) :
  VCall C intr0 F.reader_typ [.bp 0 0] [rdO R p] fun r σ' => ∃ cs', σ' = [.box cs'] /\ closedCR r = true /\ bdL 0 cs' = true /\ tyK R (typF R (f + 1) p) r cs' := by
 have hlen := w.len
 have hgo : kind ≠ 0 -> p + 1 < R.ts.length := fun h => w.go p _ htk h
 have hst : kind ≠ 0 -> stepP ⟨kind, text, off⟩ p = p + 1 := fun h => if_neg h
 refine VCall.b1 typfz (fun _ => rfl) ?_
 refine take_spec R p _ htk (by omega) 0 rfl ?_
 first | have hq0 : p + 1 < R.ts.length := hgo (by omega) | skip
 first | rw [hst (by omega)] | skip
 subst h5
 subst ht5
 have hfd : vfind .string (strV [98, 111, 111, 108]) baseE 0 = some (some (1, intV 3)) := rfl
 repeat refine vni (by repeat' (first | exact trivial | exact rfl | refine vnf rfl ?_ | refine exf _ hfd ?_ | refine And.intro ?_ ?_)) ?_
 refine VCall.b0 nofz (fun _ => rfl) ?_
 refine exf none rfl ?_
 refine exf none rfl ?_
 refine exf none rfl ?_
 refine exf none rfl ?_
 refine exf none rfl ?_
 refine exf _ hfd ?_
 repeat refine vni (by repeat' (first | exact trivial | exact rfl | refine vnf rfl ?_ | refine exf _ hfd ?_ | refine And.intro ?_ ?_)) ?_
 refine VUpd.drop 1 ?_ ?_ ?_ ?_
 iterate 3 exact rfl
 refine VUpd.now rfl ⟨_, rfl, rfl, rfl, ?_⟩
 rw [hF]
 simp only [typB, if_true, if_false, reduceIte, Nat.reduceEqDiff, PR.map]
 exact ⟨rfl, _, .mk .nil .nil, rfl⟩
set_option maxRecDepth 100000 in
set_option maxHeartbeats 16000000 in
theorem typ_c2 (R : Rd) (w : R.Wf) (f p : Nat) (hp : p < R.ts.length) (ht : TypOk (typF R f) R (p + 1)) (kind : Nat) (text : List UInt8) (off : Nat) (htk : R.ts[p]? = some ⟨kind, text, off⟩) (hF : typF R (f + 1) p = typB (typF R f) R kind text off (p + 1)) (h5 : kind = 5) (ht5 : text = [116, 101, 120, 116]) :
  VCall C intr0 F.reader_typ [.bp 0 0] [rdO R p] fun r σ' => ∃ cs', σ' = [.box cs'] /\ closedCR r = true /\ bdL 0 cs' = true /\ tyK R (typF R (f + 1) p) r cs' := by
 have hlen := w.len
 have hgo : kind ≠ 0 -> p + 1 < R.ts.length := fun h => w.go p _ htk h
 have hst : kind ≠ 0 -> stepP ⟨kind, text, off⟩ p = p + 1 := fun h => if_neg h
 refine VCall.b1 typfz (fun _ => rfl) ?_
 refine take_spec R p _ htk (by omega) 0 rfl ?_
 first | have hq0 : p + 1 < R.ts.length := hgo (by omega) | skip
 first | rw [hst (by omega)] | skip
 subst h5
 subst ht5
 have hfd : vfind .string (strV [116, 101, 120, 116]) baseE 0 = some (some (2, intV 4)) := rfl
 repeat refine vni (by repeat' (first | exact trivial | exact rfl | refine vnf rfl ?_ | refine exf _ hfd ?_ | refine And.intro ?_ ?_)) ?_
 refine VCall.b0 nofz (fun _ => rfl) ?_
 refine exf none rfl ?_
 refine exf none rfl ?_
 refine exf none rfl ?_
 refine exf none rfl ?_
 refine exf none rfl ?_
 refine exf _ hfd ?_
 repeat refine vni (by repeat' (first | exact trivial | exact rfl | refine vnf rfl ?_ | refine exf _ hfd ?_ | refine And.intro ?_ ?_)) ?_
 refine VUpd.drop 1 ?_ ?_ ?_ ?_
 iterate 3 exact rfl
 refine VUpd.now rfl ⟨_, rfl, rfl, rfl, ?_⟩
 rw [hF]
 simp only [typB, if_true, if_false, reduceIte, Nat.reduceEqDiff, PR.map]
 exact ⟨rfl, _, .mk .nil .nil, rfl⟩
set_option maxRecDepth 100000 in
set_option maxHeartbeats 16000000 in
theorem typ_c3 (R : Rd) (w : R.Wf) (f p : Nat) (hp : p < R.ts.length) (ht : TypOk (typF R f) R (p + 1)) (kind : Nat) (text : List UInt8) (off : Nat) (htk : R.ts[p]? = some ⟨kind, text, off⟩) (hF : typF R (f + 1) p = typB (typF R f) R kind text off (p + 1)) (h5 : kind = 5) (ht5 : text = [97, 110, 121]) :
  VCall C intr0 F.reader_typ [.bp 0 0] [rdO R p] fun r σ' => ∃ cs', σ' = [.box cs'] /\ closedCR r = true /\ bdL 0 cs' = true /\ tyK R (typF R (f + 1) p) r cs' := by
 have hlen := w.len
 have hgo : kind ≠ 0 -> p + 1 < R.ts.length := fun h => w.go p _ htk h
 have hst : kind ≠ 0 -> stepP ⟨kind, text, off⟩ p = p + 1 := fun h => if_neg h
 refine VCall.b1 typfz (fun _ => rfl) ?_
 refine take_spec R p _ htk (by omega) 0 rfl ?_
 first | have hq0 : p + 1 < R.ts.length := hgo (by omega) | skip
 first | rw [hst (by omega)] | skip
 subst h5
 subst ht5
 have hfd : vfind .string (strV [97, 110, 121]) baseE 0 = some (some (3, intV 0)) := rfl
 repeat refine vni (by repeat' (first | exact trivial | exact rfl | refine vnf rfl ?_ | refine exf _ hfd ?_ | refine And.intro ?_ ?_)) ?_
 refine VCall.b0 nofz (fun _ => rfl) ?_
 refine exf none rfl ?_
 refine exf none rfl ?_
 refine exf none rfl ?_
 refine exf none rfl ?_
 refine exf none rfl ?_
 refine exf _ hfd ?_
 repeat refine vni (by repeat' (first | exact trivial | exact rfl | refine vnf rfl ?_ | refine exf _ hfd ?_ | refine And.intro ?_ ?_)) ?_
 refine VUpd.drop 1 ?_ ?_ ?_ ?_
 iterate 3 exact rfl
 refine VUpd.now rfl ⟨_, rfl, rfl, rfl, ?_⟩
 rw [hF]
 simp only [typB, if_true, if_false, reduceIte, Nat.reduceEqDiff, PR.map]
 exact ⟨rfl, _, .mk .nil .nil, rfl⟩
set_option maxRecDepth 100000 in
set_option maxHeartbeats 16000000 in
theorem typ_c4 (R : Rd) (w : R.Wf) (f p : Nat) (hp : p < R.ts.length) (ht : TypOk (typF R f) R (p + 1)) (kind : Nat) (text : List UInt8) (off : Nat) (htk : R.ts[p]? = some ⟨kind, text, off⟩) (hF : typF R (f + 1) p = typB (typF R f) R kind text off (p + 1)) (h5 : kind = 5) (ht5 : text = [110, 111, 110, 101]) :
  VCall C intr0 F.reader_typ [.bp 0 0] [rdO R p] fun r σ' => ∃ cs', σ' = [.box cs'] /\ closedCR r = true /\ bdL 0 cs' = true /\ tyK R (typF R (f + 1) p) r cs' := by
 have hlen := w.len
 have hgo : kind ≠ 0 -> p + 1 < R.ts.length := fun h => w.go p _ htk h
 have hst : kind ≠ 0 -> stepP ⟨kind, text, off⟩ p = p + 1 := fun h => if_neg h
 refine VCall.b1 typfz (fun _ => rfl) ?_
 refine take_spec R p _ htk (by omega) 0 rfl ?_
 first | have hq0 : p + 1 < R.ts.length := hgo (by omega) | skip
 first | rw [hst (by omega)] | skip
 subst h5
 subst ht5
 have hfd : vfind .string (strV [110, 111, 110, 101]) baseE 0 = some (some (4, intV 1)) := rfl
 repeat refine vni (by repeat' (first | exact trivial | exact rfl | refine vnf rfl ?_ | refine exf _ hfd ?_ | refine And.intro ?_ ?_)) ?_
 refine VCall.b0 nofz (fun _ => rfl) ?_
 refine exf none rfl ?_
 refine exf none rfl ?_
 refine exf none rfl ?_
 refine exf none rfl ?_
 refine exf none rfl ?_
 refine exf _ hfd ?_
 repeat refine vni (by repeat' (first | exact trivial | exact rfl | refine vnf rfl ?_ | refine exf _ hfd ?_ | refine And.intro ?_ ?_)) ?_
 refine VUpd.drop 1 ?_ ?_ ?_ ?_
 iterate 3 exact rfl
 refine VUpd.now rfl ⟨_, rfl, rfl, rfl, ?_⟩
 rw [hF]
 simp only [typB, if_true, if_false, reduceIte, Nat.reduceEqDiff, PR.map]
 exact ⟨rfl, _, .mk .nil .nil, rfl⟩
set_option maxRecDepth 100000 in
set_option maxHeartbeats 16000000 in
theorem typ_c5 (R : Rd) (w : R.Wf) (f p : Nat) (hp : p < R.ts.length) (ht : TypOk (typF R f) R (p + 1)) (kind : Nat) (text : List UInt8) (off : Nat) (htk : R.ts[p]? = some ⟨kind, text, off⟩) (hF : typF R (f + 1) p = typB (typF R f) R kind text off (p + 1)) (h5 : kind = 5) (ht5 : text = [108, 105, 115, 116]) :
  VCall C intr0 F.reader_typ [.bp 0 0] [rdO R p] fun r σ' => ∃ cs', σ' = [.box cs'] /\ closedCR r = true /\ bdL 0 cs' = true /\ tyK R (typF R (f + 1) p) r cs' := by
 have hlen := w.len
 have hgo : kind ≠ 0 -> p + 1 < R.ts.length := fun h => w.go p _ htk h
 have hst : kind ≠ 0 -> stepP ⟨kind, text, off⟩ p = p + 1 := fun h => if_neg h
 refine VCall.b1 typfz (fun _ => rfl) ?_
 refine take_spec R p _ htk (by omega) 0 rfl ?_
 first | have hq0 : p + 1 < R.ts.length := hgo (by omega) | skip
 first | rw [hst (by omega)] | skip
 subst h5
 subst ht5
 have hfd : vfind .string (strV [108, 105, 115, 116]) baseE 0 = some none := rfl
 repeat refine vni (by repeat' (first | exact trivial | exact rfl | refine vnf rfl ?_ | refine exf _ hfd ?_ | refine And.intro ?_ ?_)) ?_
 refine VCall.b0 nofz (fun _ => rfl) ?_
 refine exf none rfl ?_
 refine exf none rfl ?_
 refine exf none rfl ?_
 refine exf none rfl ?_
 refine exf none rfl ?_
 refine exf _ hfd ?_
 repeat refine vni (by repeat' (first | exact trivial | exact rfl | refine vnf rfl ?_ | refine exf _ hfd ?_ | refine And.intro ?_ ?_)) ?_
 refine bracket_spec R w (typF R f) (p + 1) hq0 ht 0 ?_ (fun t d q e1 hd => ?_) (fun off e q e1 => ?_)
 ·exact rfl
 ·obtain ⟨k, m, n, a, fl, rfl⟩ := hd.five
  intro b
  refine VUpd.drop 1 ?_ ?_ ?_ ?_
  iterate 3 exact rfl
  refine VUpd.now rfl ⟨_, rfl, rfl, rfl, ?_⟩
  rw [hF]
  simp only [typB, if_true, if_false, reduceIte, Nat.reduceEqDiff, PR.map, e1]
  exact ⟨rfl, _, .mk (.ps (.cons hd .nil) (by simp)) .nil, rfl⟩
 ·refine VUpd.drop 1 ?_ ?_ ?_ ?_
  iterate 3 exact rfl
  refine VUpd.now rfl ⟨_, rfl, rfl, rfl, ?_⟩
  rw [hF]
  simp only [typB, if_true, if_false, reduceIte, Nat.reduceEqDiff, PR.map, e1]
  exact ⟨q, rfl, rfl⟩
set_option maxRecDepth 100000 in
set_option maxHeartbeats 16000000 in
theorem typ_c6 (R : Rd) (w : R.Wf) (f p : Nat) (hp : p < R.ts.length) (ht : TypOk (typF R f) R (p + 1)) (kind : Nat) (text : List UInt8) (off : Nat) (htk : R.ts[p]? = some ⟨kind, text, off⟩) (hF : typF R (f + 1) p = typB (typF R f) R kind text off (p + 1)) (h5 : kind = 5) (ht5 : text = [102, 110]) :
  VCall C intr0 F.reader_typ [.bp 0 0] [rdO R p] fun r σ' => ∃ cs', σ' = [.box cs'] /\ closedCR r = true /\ bdL 0 cs' = true /\ tyK R (typF R (f + 1) p) r cs' := by
 have hlen := w.len
 have hgo : kind ≠ 0 -> p + 1 < R.ts.length := fun h => w.go p _ htk h
 have hst : kind ≠ 0 -> stepP ⟨kind, text, off⟩ p = p + 1 := fun h => if_neg h
 refine VCall.b1 typfz (fun _ => rfl) ?_
 refine take_spec R p _ htk (by omega) 0 rfl ?_
 first | have hq0 : p + 1 < R.ts.length := hgo (by omega) | skip
 first | rw [hst (by omega)] | skip
 subst h5
 have hb : basicK text = none := by rw [ht5]; rfl
 have hl : text ≠ [108, 105, 115, 116] := by rw [ht5]; decide
 have hfd := find_none5 hb
 repeat refine vni (by repeat' (first | exact trivial | exact rfl | refine vnf rfl ?_ | refine exf _ hfd ?_ | refine And.intro ?_ ?_)) ?_
 refine VCall.b0 nofz (fun _ => rfl) ?_
 refine exf none rfl ?_
 refine exf none rfl ?_
 refine exf none rfl ?_
 refine exf none rfl ?_
 refine exf none rfl ?_
 refine exf _ hfd ?_
 repeat refine vni (by repeat' (first | exact trivial | exact rfl | refine vnf rfl ?_ | refine exf _ hfd ?_ | refine And.intro ?_ ?_)) ?_
 refine vcn (decide_eq_false hl) ?_
 repeat refine vcn (decide_eq_false hl) ?_
 refine vcp (decide_eq_true ht5) ?_
 repeat refine vcp (decide_eq_true ht5) ?_
 intro b
 refine need_spec R w [[40]] (by decide) (p + 1) hq0 _ _ 0 ?_ ?_
 ·exact rfl
 cases hn : needF R [[40]] (p + 1) with
 | bad off e =>
  intro q
  refine VUpd.drop 1 ?_ ?_ ?_ ?_
  iterate 3 exact rfl
  refine VUpd.now rfl ⟨_, rfl, rfl, rfl, ?_⟩
  rw [hF]
  simp only [typB, if_true, if_false, reduceIte, Nat.reduceEqDiff, PR.map, hb, hl, ht5, hn]
  exact ⟨q, rfl, rfl⟩
 | ok _ q1 =>
  have hq1 := needF_lt w _ _ _ hq0 hn
  have hm1 : p + 1 <= q1 := by rw [needF_mono _ _ _ hn]; omega
  refine fields_spec R w (typF R f) [44] [41] true q1 hq1 (ht.up hm1) 0 ?_ (fun l d q2 e1 hd => ?_) (fun off e q e1 => ?_)
  ·exact rfl
  ·obtain ⟨hm2, hq2⟩ := fieldsF_lt w (ht.up hm1).lt hq1 e1
   refine ht.call q2 (by omega) hq2 0 _ _ ?_ (fun t d2 q3 e2 hd2 => ?_) (fun off e q3 e2 => ?_)
   ·exact rfl
   ·obtain ⟨k, m, n, a, fl, rfl⟩ := hd2.five
    intro b2
    refine VUpd.drop 1 ?_ ?_ ?_ ?_
    iterate 3 exact rfl
    refine VUpd.now rfl ⟨_, rfl, rfl, rfl, ?_⟩
    rw [hF]
    simp only [typB, if_true, if_false, reduceIte, Nat.reduceEqDiff, PR.map, hb, hl, ht5, hn, e1, e2]
    exact ⟨rfl, _, .mk (.ps (.cons hd2 .nil) (by simp)) hd, rfl⟩
   ·refine VUpd.drop 1 ?_ ?_ ?_ ?_
    iterate 3 exact rfl
    refine VUpd.now rfl ⟨_, rfl, rfl, rfl, ?_⟩
    rw [hF]
    simp only [typB, if_true, if_false, reduceIte, Nat.reduceEqDiff, PR.map, hb, hl, ht5, hn, e1, e2]
    exact ⟨q3, rfl, rfl⟩
  ·refine VUpd.drop 1 ?_ ?_ ?_ ?_
   iterate 3 exact rfl
   refine VUpd.now rfl ⟨_, rfl, rfl, rfl, ?_⟩
   rw [hF]
   simp only [typB, if_true, if_false, reduceIte, Nat.reduceEqDiff, PR.map, hb, hl, ht5, hn, e1]
   exact ⟨q, rfl, rfl⟩
set_option maxRecDepth 100000 in
set_option maxHeartbeats 16000000 in
theorem typ_c7 (R : Rd) (w : R.Wf) (f p : Nat) (hp : p < R.ts.length) (ht : TypOk (typF R f) R (p + 1)) (kind : Nat) (text : List UInt8) (off : Nat) (htk : R.ts[p]? = some ⟨kind, text, off⟩) (hF : typF R (f + 1) p = typB (typF R f) R kind text off (p + 1)) (h5 : kind = 5) (hb : basicK text = none) (hl : text ≠ [108, 105, 115, 116]) (hfn : text ≠ [102, 110]) :
  VCall C intr0 F.reader_typ [.bp 0 0] [rdO R p] fun r σ' => ∃ cs', σ' = [.box cs'] /\ closedCR r = true /\ bdL 0 cs' = true /\ tyK R (typF R (f + 1) p) r cs' := by
 have hlen := w.len
 have hgo : kind ≠ 0 -> p + 1 < R.ts.length := fun h => w.go p _ htk h
 have hst : kind ≠ 0 -> stepP ⟨kind, text, off⟩ p = p + 1 := fun h => if_neg h
 refine VCall.b1 typfz (fun _ => rfl) ?_
 refine take_spec R p _ htk (by omega) 0 rfl ?_
 first | have hq0 : p + 1 < R.ts.length := hgo (by omega) | skip
 first | rw [hst (by omega)] | skip
 subst h5
 have hfd := find_none5 hb
 repeat refine vni (by repeat' (first | exact trivial | exact rfl | refine vnf rfl ?_ | refine exf _ hfd ?_ | refine And.intro ?_ ?_)) ?_
 refine VCall.b0 nofz (fun _ => rfl) ?_
 refine exf none rfl ?_
 refine exf none rfl ?_
 refine exf none rfl ?_
 refine exf none rfl ?_
 refine exf none rfl ?_
 refine exf _ hfd ?_
 repeat refine vni (by repeat' (first | exact trivial | exact rfl | refine vnf rfl ?_ | refine exf _ hfd ?_ | refine And.intro ?_ ?_)) ?_
 refine vcn (decide_eq_false hl) ?_
 repeat refine vcn (decide_eq_false hl) ?_
 refine vcn (decide_eq_false hfn) ?_
 repeat refine vcn (decide_eq_false hfn) ?_
 refine fail_spec _ off 3 ?_
 refine VUpd.drop 1 ?_ ?_ ?_ ?_
 iterate 3 exact rfl
 refine VUpd.now rfl ⟨_, rfl, rfl, rfl, ?_⟩
 rw [hF]
 simp only [typB, if_true, if_false, reduceIte, Nat.reduceEqDiff, PR.map, hb, hl, hfn]
 exact ⟨_, rfl, rfl⟩
end Go.Proofs.YthfehkcfhiilfaaGreatDoor
