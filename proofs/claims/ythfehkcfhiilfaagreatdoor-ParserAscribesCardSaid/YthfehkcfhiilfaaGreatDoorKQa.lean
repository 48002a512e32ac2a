/- Plain facts: the sources that hold the source of a type. -/
import Derived.Test.YthfehkcfhiilfaaGreatDoorKRe
import Derived.Test.YthfehkcfhiilfaaGreatDoorKYc
namespace Go.Proofs.YthfehkcfhiilfaaGreatDoor set_option linter.unusedSimpArgs false set_option linter.unusedVariables false
open Go.AM Go.VM
theorem skip_full : ∀ (b : Bool) (l r : List UInt8), skipF b l = l.length -> skipF b (l ++ 10 :: r) = l.length + 1 + skipF false r := by
 intro b l
 induction l generalizing b with
 | nil =>
  intro r _
  cases b <;> simp [skipF]
 | cons c l ih =>
  intro r h
  cases b with
  | true =>
   simp only [skipF, List.length_cons, List.cons_append] at h ⊢
   rw [ih _ r (by omega)]
   omega
  | false =>
   simp only [skipF, List.length_cons, List.cons_append] at h ⊢
   have hh : (l ++ 10 :: r).head? = some 47 ↔ l.head? = some 47 := by
    cases l with
    | nil => simp
    | cons d l => simp
   by_cases h1 : c = 47 /\ l.head? = some 47
   ·rw [if_pos h1] at h
    rw [if_pos ⟨h1.1, hh.2 h1.2⟩, ih true r (by omega)]
    omega
   ·rw [if_neg h1] at h
    rw [if_neg (fun h2 => h1 ⟨h2.1, hh.1 h2.2⟩)]
    by_cases h3 : c = 32 ∨ c = 9 ∨ c = 10 ∨ c = 13
    ·rw [if_pos h3] at h ⊢
     rw [ih false r (by omega)]
     omega
    ·rw [if_neg h3] at h
     omega
theorem skip_part : ∀ (b : Bool) (l r : List UInt8), skipF b l < l.length -> skipF b (l ++ 10 :: r) = skipF b l := by
 intro b l
 induction l generalizing b with
 | nil => intro r h; simp at h
 | cons c l ih =>
  intro r h
  cases b with
  | true =>
   simp only [skipF, List.length_cons, List.cons_append] at h ⊢
   rw [ih _ r (by omega)]
  | false =>
   simp only [skipF, List.length_cons, List.cons_append] at h ⊢
   have hh : (l ++ 10 :: r).head? = some 47 ↔ l.head? = some 47 := by
    cases l with
    | nil => simp
    | cons d l => simp
   by_cases h1 : c = 47 /\ l.head? = some 47
   ·rw [if_pos h1] at h
    rw [if_pos h1, if_pos ⟨h1.1, hh.2 h1.2⟩, ih true r (by omega)]
   ·rw [if_neg h1] at h
    rw [if_neg h1, if_neg (fun h2 => h1 ⟨h2.1, hh.1 h2.2⟩)]
    by_cases h3 : c = 32 ∨ c = 9 ∨ c = 10 ∨ c = 13
    ·rw [if_pos h3] at h
     rw [if_pos h3, if_pos h3, ih false r (by omega)]
    ·rw [if_neg h3, if_neg h3]
theorem span_app (p : UInt8 -> Bool) (hp : p 10 = false) (l r : List UInt8) : spanN p (l ++ 10 :: r) = spanN p l := by
 induction l with
 | nil => rw [List.nil_append, spanN_cons, hp]; rfl
 | cons c l ih => rw [List.cons_append, spanN_cons, spanN_cons, ih]
theorem take_app (l r : List UInt8) {n : Nat} (h : n <= l.length) : (l ++ r).take n = l.take n := by
 rw [List.take_append_of_le_length h]
theorem pre_app (x l r : List UInt8) (h : (10 : UInt8) ∉ x) : hasPre (l ++ 10 :: r) x = hasPre l x := by
 unfold hasPre
 induction x generalizing l with
 | nil => cases l <;> rfl
 | cons a x ih =>
  have h1 : a ≠ 10 := fun e => h (by simp [e])
  have h2 : (10 : UInt8) ∉ x := fun e => h (by simp [e])
  cases l with
  | nil => simp [List.isPrefixOf, h1]
  | cons c l => simp only [List.cons_append, List.isPrefixOf, ih l h2]
theorem sym_app (c : UInt8) (l r : List UInt8) : symOf (c :: l ++ 10 :: r) = symOf (c :: l) := by
 have h : ∀ L : List (List UInt8), (∀ x ∈ L, (10 : UInt8) ∉ x) -> L.find? (hasPre (c :: l ++ 10 :: r)) = L.find? (hasPre (c :: l)) := by
  intro L
  induction L with
  | nil => intro _; rfl
  | cons x L ih =>
   intro hL
   rw [List.find?_cons, List.find?_cons, pre_app x (c :: l) r (hL x (by simp)), ih (fun y hy => hL y (by simp [hy]))]
 have h7 := h syms7 (by decide)
 unfold symOf
 rw [h7]
 rfl
theorem lit_app : ∀ (n : Nat) (l r b : List UInt8) (m : Nat), l.length <= n -> litF l = some (b, m) -> litF (l ++ r) = some (b, m) := by
 intro n
 induction n with
 | zero =>
  intro l r b m hn h
  have : l = [] := List.eq_nil_of_length_eq_zero (by omega)
  subst this
  rw [litF.eq_def] at h
  cases h
 | succ n ih =>
  intro l r b m hn h
  cases l with
  | nil => rw [litF.eq_def] at h; cases h
  | cons c l =>
   simp only [List.length_cons] at hn
   have key : ∀ (l2 : List UInt8) (f : List UInt8 × Nat -> List UInt8 × Nat), l2.length <= n -> (litF l2).map f = some (b, m) -> (litF (l2 ++ r)).map f = some (b, m) := by
    intro l2 f h2 h3
    cases hl : litF l2 with
    | none => rw [hl] at h3; cases h3
    | some y =>
     obtain ⟨b', m'⟩ := y
     rw [ih l2 r b' m' h2 hl, <- hl]
     exact h3
   rw [litF.eq_def] at h
   rw [List.cons_append, litF.eq_def]
   dsimp only at h ⊢
   split at h
   ·rename_i h1; rw [if_pos h1]; exact h
   ·rename_i h1
    rw [if_neg h1]
    split at h
    ·cases h
    ·rename_i h2
     rw [if_neg h2]
     split at h
     ·rename_i h3; rw [if_pos h3]; exact key l _ (by omega) h
     ·rename_i h3
      rw [if_neg h3]
      cases l with
      | nil => cases h
      | cons e l2 =>
       simp only [List.length_cons] at hn
       dsimp only [List.cons_append] at h ⊢
       split at h
       ·rename_i h4; rw [if_pos h4]; exact key l2 _ (by omega) h
       ·rename_i h4
        rw [if_neg h4]
        split at h
        ·rename_i h5; rw [if_pos h5]; exact key l2 _ (by omega) h
        ·rename_i h5
         rw [if_neg h5]
         split at h
         ·rename_i h6
          rw [if_pos h6]
          match l2, hn, h with
          | x :: y :: l3, hn, h =>
           simp only [List.length_cons] at hn
           dsimp only [List.cons_append] at h ⊢
           cases hx : hexN x with
           | none => rw [hx] at h; cases h
           | some p =>
            cases hy : hexN y with
            | none => rw [hx, hy] at h; cases h
            | some q =>
             rw [hx, hy] at h
             exact key l3 _ (by omega) h
         ·cases h
theorem tok_app {l r : List UInt8} {k n : Nat} {t : List UInt8} (h : tokF l = .ok k t n) : tokF (l ++ 10 :: r) = .ok k t n := by
 cases l with
 | nil => cases h
 | cons c l =>
  have hw := span_app isWord rfl (c :: l) r
  have hd := span_app isDigit rfl (c :: l) r
  have hwl := spanN_le isWord (c :: l)
  have hdl := spanN_le isDigit (c :: l)
  rw [tokF] at h
  rw [List.cons_append, tokF, <- List.cons_append]
  split at h
  ·rename_i h1
   rw [if_pos h1, hw, take_app _ _ hwl]
   exact h
  ·rename_i h1
   rw [if_neg h1]
   split at h
   ·rename_i h2
    rw [if_pos h2, hd, take_app _ _ hdl]
    rw [<- h]
    unfold numTok
    have e : ((c :: l ++ 10 :: r).drop (spanN isDigit (c :: l))).head?.any isWord = ((c :: l).drop (spanN isDigit (c :: l))).head?.any isWord := by
     generalize spanN isDigit (c :: l) = n at hdl
     rcases Nat.lt_or_ge n (c :: l).length with h3 | h3
     ·rw [List.drop_append_of_le_length (by omega)]
      cases hq : (c :: l).drop n with
      | nil => rw [List.drop_eq_nil_iff] at hq; omega
      | cons x y => rfl
     ·rw [List.drop_append_of_le_length hdl, List.drop_of_length_le h3]
      rfl
    rw [e]
   ·rename_i h2
    rw [if_neg h2]
    split at h
    ·rename_i h3
     rw [if_pos h3]
     cases hl : litF l with
     | none => rw [hl] at h; cases h
     | some y =>
      obtain ⟨b, m⟩ := y
      rw [hl] at h
      rw [lit_app l.length l (10 :: r) b m (Nat.le_refl _) hl]
      exact h
    ·rename_i h3
     rw [if_neg h3, sym_app]
     exact h
def Tok.mv (a : Nat) (t : Tok) : Tok := ⟨t.kind, t.text, t.off + a⟩
theorem LexR.app_app (x : LexR) (a b : List Tok) : (x.app a).app b = x.app (b ++ a) := by
 cases x with
 | ok l => simp only [LexR.app, List.append_assoc]
 | err o e => rfl
theorem LexR.cons_app (x : LexR) (t : Tok) (a : List Tok) : (x.app a).cons t = x.app (t :: a) := by
 cases x with
 | ok l => rfl
 | err o e => rfl
theorem lex_in (P s Q : List UInt8) (u : List UInt8) (hu : u = P ++ (s ++ 10 :: Q)) : ∀ (f i : Nat) (ts : List Tok), i <= s.length -> s.length - i < f -> lexGo s f i = .ok ts ->
  ∃ ts0, ts = ts0 ++ [⟨0, [], s.length⟩] /\ ts0.length <= s.length - i /\ (∀ x ∈ ts0, x.kind ≠ 0) /\ ∀ g, lexGo u (g + ts0.length) (if i < s.length then P.length + i else P.length + s.length + 1 + skipF false Q) = (lexGo u g (P.length + s.length + 1 + skipF false Q)).app (ts0.map (Tok.mv P.length)) := by
 have hul : u.length = P.length + (s.length + (Q.length + 1)) := by rw [hu]; simp
 have hdr : ∀ i, i <= s.length -> u.drop (P.length + i) = s.drop i ++ 10 :: Q := by
  intro i hi
  rw [hu, List.drop_append, List.drop_of_length_le (by omega), List.nil_append, show P.length + i - P.length = i from by omega, List.drop_append_of_le_length hi]
 intro f
 induction f with
 | zero => intro i ts _ h; omega
 | succ f ih =>
  intro i ts hi hf h
  rw [lexGo] at h
  split at h
  ·rename_i hl
   cases h
   refine ⟨[], rfl, Nat.zero_le _, by simp, fun g => ?_⟩
   rw [if_neg (by omega)]
   cases lexGo u g (P.length + s.length + 1 + skipF false Q) <;> rfl
  ·rename_i hl
   have hl : i < s.length := by omega
   cases ht : tokF (s.drop i) with
   | err e => rw [ht] at h; cases h
   | ok k t n =>
    rw [ht] at h
    dsimp only at h
    have hn := tokF_len ht
    rw [List.length_drop] at hn
    have hsk := skipF_le false (s.drop (i + n))
    rw [List.length_drop] at hsk
    cases hr : lexGo s f (i + n + skipF false (s.drop (i + n))) with
    | err o e => rw [hr] at h; cases h
    | ok ts' =>
     rw [hr] at h
     cases h
     obtain ⟨ts0, rfl, hlen, hnz, hg⟩ := ih _ _ (by omega) (by omega) hr
     refine ⟨⟨k, t, i⟩ :: ts0, rfl, by simp only [List.length_cons]; omega, fun x hx => ?_, fun g => ?_⟩
     ·rcases List.mem_cons.1 hx with rfl | hx
      ·exact (tokF_name ht).1
      ·exact hnz x hx
     rw [if_pos hl, List.length_cons, <- Nat.add_assoc, lexGo, if_neg (by omega), hdr i hi, tok_app ht]
     dsimp only
     rw [Nat.add_assoc P.length i n, hdr (i + n) (by omega)]
     have hpos : P.length + (i + n) + skipF false (s.drop (i + n) ++ 10 :: Q) = if i + n + skipF false (s.drop (i + n)) < s.length then P.length + (i + n + skipF false (s.drop (i + n))) else P.length + s.length + 1 + skipF false Q := by
      rcases Nat.lt_or_ge (skipF false (s.drop (i + n))) (s.length - (i + n)) with h1 | h1
      ·rw [skip_part _ _ _ (by rw [List.length_drop]; exact h1), if_pos (by omega)]
       omega
      ·rw [skip_full _ _ _ (by rw [List.length_drop]; omega), if_neg (by omega), List.length_drop]
       omega
     rw [hpos, hg g, LexR.cons_app, List.map_cons]
     show _ = LexR.app (⟨k, t, i + P.length⟩ :: _) _
     rw [Nat.add_comm i P.length]
structure Emb (R R' : Rd) (a q0 : Nat) : Prop where
 fin : (R.tok q0).kind = 0
 kind : ∀ i, i < q0 -> (R'.tok (a + i)).kind = (R.tok i).kind
 text : ∀ i, i < q0 -> (R'.tok (a + i)).text = (R.tok i).text
 stop : isTok (R'.tok (a + q0)) [91] = false
 big : R.ts.length <= R'.ts.length
theorem Emb.is {R R' : Rd} {a q0 : Nat} (h : Emb R R' a q0) {i : Nat} (hi : i < q0) (s : List UInt8) : isTok (R'.tok (a + i)) s = isTok (R.tok i) s := by
 unfold isTok
 rw [h.kind i hi, h.text i hi]
theorem Emb.lt {R R' : Rd} {a q0 : Nat} (h : Emb R R' a q0) {p : Nat} (hp : p <= q0) (hk : (R.tok p).kind ≠ 0) : p < q0 := by
 rcases Nat.lt_or_ge p q0 with h1 | h1
 ·exact h1
 ·obtain rfl : p = q0 := by omega
  exact absurd h.fin hk
theorem Emb.isLt {R R' : Rd} {a q0 : Nat} (h : Emb R R' a q0) {p : Nat} (hp : p <= q0) {s : List UInt8} (hk : isTok (R.tok p) s = true) : p < q0 := h.lt hp (isTok_kind hk)
theorem needF_emb {R R' : Rd} {a q0 : Nat} (h : Emb R R' a q0) : ∀ (l : List (List UInt8)) (p p' : Nat), p <= q0 -> needF R l p = .ok () p' -> p' <= q0 /\ needF R' l (a + p) = .ok () (a + p') := by
 intro l
 induction l with
 | nil => intro p p' hp e; cases e; exact ⟨hp, rfl⟩
 | cons s l ih =>
  intro p p' hp e
  rw [needF] at e
  split at e
  ·rename_i hs
   have hlt := h.isLt hp hs
   obtain ⟨g1, g2⟩ := ih (p + 1) p' hlt e
   refine ⟨g1, ?_⟩
   rw [needF, h.is hlt, if_pos hs]
   exact g2
  ·cases e
theorem needF_first {R R' : Rd} {a q0 : Nat} (h : Emb R R' a q0) {s : List UInt8} {l : List (List UInt8)} {p p' : Nat} (hp : p <= q0) (e : needF R (s :: l) p = .ok () p') : p < q0 := by
 rw [needF] at e
 split at e
 ·rename_i hs; exact h.isLt hp hs
 ·cases e
def TyEmb (ty ty' : Nat -> PR Ty) (a q0 : Nat) : Prop := ∀ p t q, p <= q0 -> ty p = .ok t q -> q <= q0 /\ ty' (a + p) = .ok t (a + q)
theorem argsLoop_emb {ty ty' : Nat -> PR Ty} {R R' : Rd} {a q0 : Nat} (h : Emb R R' a q0) (ht : TyEmb ty ty' a q0) : ∀ (f f' : Nat) (acc : List Ty) (p : Nat) (l : List Ty) (q : Nat), f <= f' -> p <= q0 -> argsLoop ty R f acc p = .ok l q -> q <= q0 /\ argsLoop ty' R' f' acc (a + p) = .ok l (a + q) := by
 intro f
 induction f with
 | zero => intro f' acc p l q _ _ e; cases e
 | succ f ih =>
  intro f' acc p l q hf hp e
  obtain ⟨g, rfl⟩ : ∃ g, f' = g + 1 := ⟨f' - 1, by omega⟩
  rw [argsLoop] at e ⊢
  cases hx : ty p with
  | bad o e' => rw [hx] at e; cases e
  | ok t q1 =>
   rw [hx] at e
   dsimp only at e
   obtain ⟨h1, h2⟩ := ht p t q1 hp hx
   rw [h2]
   dsimp only
   cases h3 : isTok (R.tok q1) [44] with
   | true =>
    rw [h3, if_pos rfl] at e
    have hlt := h.isLt h1 h3
    rw [h.is hlt, h3, if_pos rfl]
    exact ih g _ _ _ _ (by omega) hlt e
   | false =>
    rw [h3, if_neg (by decide)] at e
    cases hn : needF R [[93]] q1 with
    | bad o e' => rw [hn] at e; cases e
    | ok u q' =>
     rw [hn] at e
     cases e
     have hlt := needF_first h h1 hn
     obtain ⟨k1, k2⟩ := needF_emb h _ _ _ h1 hn
     rw [h.is hlt, h3, if_neg (by decide), k2]
     exact ⟨k1, rfl⟩
theorem argsF_emb {ty ty' : Nat -> PR Ty} {R R' : Rd} {a q0 : Nat} (h : Emb R R' a q0) (ht : TyEmb ty ty' a q0) {p : Nat} (hp : p <= q0) {l : List Ty} {q : Nat} (e : argsF ty R p = .ok l q) : q <= q0 /\ argsF ty' R' (a + p) = .ok l (a + q) := by
 rw [argsF] at e ⊢
 cases hs : isTok (R.tok p) [91] with
 | true =>
  rw [hs, if_pos rfl] at e
  have hlt := h.isLt hp hs
  rw [h.is hlt, hs, if_pos rfl]
  exact argsLoop_emb h ht _ _ _ _ _ _ h.big hlt e
 | false =>
  rw [hs, if_neg (by decide)] at e
  cases e
  have h2 : isTok (R'.tok (a + p)) [91] = false := by
   rcases Nat.lt_or_ge p q0 with h1 | h1
   ·rw [h.is h1]; exact hs
   ·obtain rfl : p = q0 := by omega
    exact h.stop
  rw [h2, if_neg (by decide)]
  exact ⟨hp, rfl⟩
theorem bracketF_emb {ty ty' : Nat -> PR Ty} {R R' : Rd} {a q0 : Nat} (h : Emb R R' a q0) (ht : TyEmb ty ty' a q0) {p : Nat} (hp : p <= q0) {t : Ty} {q : Nat} (e : bracketF ty R p = .ok t q) : q <= q0 /\ bracketF ty' R' (a + p) = .ok t (a + q) := by
 rw [bracketF] at e ⊢
 cases hn : needF R [[91]] p with
 | bad o e' => rw [hn] at e; cases e
 | ok u q1 =>
  rw [hn] at e
  dsimp only at e
  obtain ⟨k1, k2⟩ := needF_emb h _ _ _ hp hn
  rw [k2]
  dsimp only
  cases hx : ty q1 with
  | bad o e' => rw [hx] at e; cases e
  | ok t' q2 =>
   rw [hx] at e
   dsimp only at e
   obtain ⟨h1, h2⟩ := ht q1 t' q2 k1 hx
   rw [h2]
   dsimp only
   cases hm : needF R [[93]] q2 with
   | bad o e' => rw [hm] at e; cases e
   | ok u q3 =>
    rw [hm] at e
    cases e
    obtain ⟨k3, k4⟩ := needF_emb h _ _ _ h1 hm
    rw [k4]
    exact ⟨k3, rfl⟩
theorem fieldsLoop_emb {ty ty' : Nat -> PR Ty} {R R' : Rd} {a q0 : Nat} (h : Emb R R' a q0) (ht : TyEmb ty ty' a q0) (sep fin : List UInt8) (opt : Bool) : ∀ (f f' : Nat) (acc : List Fld) (q : Nat) (l : List Fld) (z : Nat), f <= f' -> q <= q0 -> fieldsLoop ty R sep fin opt f acc q = .ok l z -> z <= q0 /\ fieldsLoop ty' R' sep fin opt f' acc (a + q) = .ok l (a + z) := by
 intro f
 induction f with
 | zero => intro f' acc q l z _ _ e; cases e
 | succ f ih =>
  intro f' acc q l z hf hq e
  obtain ⟨g, rfl⟩ : ∃ g, f' = g + 1 := ⟨f' - 1, by omega⟩
  rw [fieldsLoop] at e ⊢
  split at e
  ·cases e
  ·rename_i hk
   have hk : (R.tok q).kind = 1 := by simpa using hk
   have hlt : q < q0 := h.lt hq (by omega)
   rw [if_neg (by rw [h.kind q hlt]; exact fun hn => hn hk)]
   rw [h.text q hlt]
   split at e
   ·cases e
   ·rename_i hin
    rw [if_neg hin]
    have hlt1 : q + 1 < q0 := by
     cases hb : (opt && isTok (R.tok (q + 1)) [63]) with
     | true =>
      rw [Bool.and_eq_true] at hb
      exact h.isLt (show q + 1 <= q0 by omega) hb.2
     | false =>
      rw [hb] at e
      simp only [Bool.false_eq_true, if_false] at e
      cases hn : needF R [[58]] (q + 1) with
      | bad o e' => rw [hn] at e; cases e
      | ok u q2 => exact needF_first h (show q + 1 <= q0 by omega) hn
    rw [show a + q + 1 = a + (q + 1) from by omega, h.is hlt1]
    have hpos : (if (opt && isTok (R.tok (q + 1)) [63]) = true then a + (q + 1) + 1 else a + (q + 1)) = a + (if (opt && isTok (R.tok (q + 1)) [63]) = true then q + 1 + 1 else q + 1) := by
     split <;> omega
    rw [hpos]
    have hle : (if (opt && isTok (R.tok (q + 1)) [63]) = true then q + 1 + 1 else q + 1) <= q0 := by split <;> omega
    generalize (opt && isTok (R.tok (q + 1)) [63]) = ob at e hle ⊢
    generalize (if ob = true then q + 1 + 1 else q + 1) = p1 at e hle ⊢
    cases hn : needF R [[58]] p1 with
    | bad o e' => rw [hn] at e; cases e
    | ok u q2 =>
     rw [hn] at e
     dsimp only at e
     obtain ⟨k1, k2⟩ := needF_emb h _ _ _ hle hn
     rw [k2]
     dsimp only
     cases hx : ty q2 with
     | bad o e' => rw [hx] at e; cases e
     | ok t q1 =>
      rw [hx] at e
      dsimp only at e
      obtain ⟨h1, h2⟩ := ht q2 t q1 k1 hx
      rw [h2]
      dsimp only
      cases hfn : isTok (R.tok q1) fin with
      | true =>
       rw [hfn, if_pos rfl] at e
       cases e
       have hlt2 := h.isLt h1 hfn
       rw [h.is hlt2, hfn, if_pos rfl]
       exact ⟨hlt2, rfl⟩
      | false =>
       rw [hfn, if_neg (by decide)] at e
       cases hm : needF R [sep] q1 with
       | bad o e' => rw [hm] at e; cases e
       | ok u q3 =>
        rw [hm] at e
        dsimp only at e
        have hlt2 := needF_first h h1 hm
        obtain ⟨k3, k4⟩ := needF_emb h _ _ _ h1 hm
        rw [h.is hlt2, hfn, if_neg (by decide), k4]
        exact ih g _ _ _ _ (by omega) k3 e
theorem fieldsF_emb {ty ty' : Nat -> PR Ty} {R R' : Rd} {a q0 : Nat} (h : Emb R R' a q0) (ht : TyEmb ty ty' a q0) {sep fin : List UInt8} {opt : Bool} {p : Nat} (hp : p <= q0) {l : List Fld} {q : Nat} (e : fieldsF ty R sep fin opt p = .ok l q) (hs : isTok (R'.tok (a + q0)) fin = false ∨ p < q0) : q <= q0 /\ fieldsF ty' R' sep fin opt (a + p) = .ok l (a + q) := by
 rw [fieldsF] at e ⊢
 cases hf : isTok (R.tok p) fin with
 | true =>
  rw [hf, if_pos rfl] at e
  cases e
  have hlt := h.isLt hp hf
  rw [h.is hlt, hf, if_pos rfl]
  exact ⟨hlt, rfl⟩
 | false =>
  rw [hf, if_neg (by decide)] at e
  obtain ⟨l0, e0, rfl⟩ := map_ok e
  have hlt : p < q0 := by
   rcases hs with h1 | h1
   ·rcases Nat.lt_or_ge p q0 with h2 | h2
    ·exact h2
    ·obtain rfl : p = q0 := by omega
     have hz : R.ts.length ≠ 0 := by
      intro hz
      rw [hz] at e0; cases e0
     obtain ⟨m, hm⟩ : ∃ m, R.ts.length = m + 1 := ⟨R.ts.length - 1, by omega⟩
     rw [hm, fieldsLoop, if_pos (by rw [h.fin]; decide)] at e0
     cases e0
   ·exact h1
  obtain ⟨k1, k2⟩ := fieldsLoop_emb h ht sep fin opt _ _ _ _ _ _ h.big hp e0
  rw [h.is hlt, hf, if_neg (by decide), k2]
  exact ⟨k1, rfl⟩
theorem typB_emb {ty ty' : Nat -> PR Ty} {R R' : Rd} {a q0 : Nat} (h : Emb R R' a q0) (ht : TyEmb ty ty' a q0) {kind : Nat} {text : List UInt8} {off off' p : Nat} (hp : p <= q0) {t : Ty} {q : Nat} (e : typB ty R kind text off p = .ok t q) : q <= q0 /\ typB ty' R' kind text off' (a + p) = .ok t (a + q) := by
 have hfl : ∀ {sep fin : List UInt8} {opt : Bool} {p q : Nat} {l : List Fld}, p <= q0 -> fieldsF ty R sep fin opt p = .ok l q -> q <= q0 /\ fieldsF ty' R' sep fin opt (a + p) = .ok l (a + q) := by
  intro sep fin opt p q l hp e
  refine fieldsF_emb h ht hp e ?_
  rcases Nat.lt_or_ge p q0 with h2 | h2
  ·exact .inr h2
  ·exfalso
   obtain rfl : p = q0 := by omega
   rw [fieldsF] at e
   have hno : isTok (R.tok p) fin = false := by
    cases hb : isTok (R.tok p) fin with
    | false => rfl
    | true => exact absurd h.fin (isTok_kind hb)
   rw [hno, if_neg (by decide)] at e
   obtain ⟨l0, e0, rfl⟩ := map_ok e
   cases hz : R.ts.length with
   | zero => rw [hz] at e0; cases e0
   | succ m =>
    rw [hz, fieldsLoop, if_pos (by rw [h.fin]; decide)] at e0
    cases e0
 unfold typB at e ⊢
 split at e
 ·rename_i hk
  rw [if_pos hk]
  split at e
  ·rename_i k hb
   cases e
   exact ⟨hp, rfl⟩
  ·rename_i hb
   split at e
   ·rename_i h1
    rw [if_pos h1]
    obtain ⟨x, e1, rfl⟩ := map_ok e
    obtain ⟨g1, g2⟩ := bracketF_emb h ht hp e1
    rw [g2]
    exact ⟨g1, rfl⟩
   ·rename_i h1
    rw [if_neg h1]
    split at e
    ·rename_i h2
     rw [if_pos h2]
     cases hn : needF R [[40]] p with
     | bad o e' => rw [hn] at e; cases e
     | ok u q1 =>
      rw [hn] at e
      dsimp only at e
      obtain ⟨k1, k2⟩ := needF_emb h _ _ _ hp hn
      rw [k2]
      dsimp only
      cases hf : fieldsF ty R [44] [41] true q1 with
      | bad o e' => rw [hf] at e; cases e
      | ok l q2 =>
       rw [hf] at e
       dsimp only at e
       obtain ⟨k3, k4⟩ := hfl k1 hf
       rw [k4]
       dsimp only
       obtain ⟨x, e1, rfl⟩ := map_ok e
       obtain ⟨g1, g2⟩ := ht _ _ _ k3 e1
       rw [g2]
       exact ⟨g1, rfl⟩
    ·cases e
 ·rename_i hk
  rw [if_neg hk]
  split at e
  ·rename_i hk2
   rw [if_pos hk2]
   split at e
   ·rename_i h1
    rw [if_pos h1]
    obtain ⟨x, e1, rfl⟩ := map_ok e
    obtain ⟨g1, g2⟩ := hfl hp e1
    rw [g2]
    exact ⟨g1, rfl⟩
   ·rename_i h1
    rw [if_neg h1]
    split at e
    ·rename_i h2
     rw [if_pos h2]
     obtain ⟨x, e1, rfl⟩ := map_ok e
     obtain ⟨g1, g2⟩ := hfl hp e1
     rw [g2]
     exact ⟨g1, rfl⟩
    ·cases e
  ·rename_i hk2
   rw [if_neg hk2]
   split at e
   ·rename_i hk3
    rw [if_pos hk3]
    obtain ⟨x, e1, rfl⟩ := map_ok e
    obtain ⟨g1, g2⟩ := argsF_emb h ht hp e1
    rw [g2]
    exact ⟨g1, rfl⟩
   ·rename_i hk3
    rw [if_neg hk3]
    split at e
    ·rename_i hk4
     rw [if_pos hk4]
     cases hn : needF R [[58, 58]] p with
     | bad o e' => rw [hn] at e; cases e
     | ok u q1 =>
      rw [hn] at e
      dsimp only at e
      obtain ⟨k1, k2⟩ := needF_emb h _ _ _ hp hn
      rw [k2]
      dsimp only
      split at e
      ·cases e
      ·rename_i hk5
       have hk5' : (R.tok q1).kind = 2 := by simpa using hk5
       have hlt : q1 < q0 := h.lt k1 (by omega)
       obtain ⟨x, e1, rfl⟩ := map_ok e
       obtain ⟨g1, g2⟩ := argsF_emb h ht (show q1 + 1 <= q0 from hlt) e1
       rw [if_neg (by rw [h.kind q1 hlt]; exact hk5), h.text q1 hlt, Nat.add_assoc a q1 1, g2]
       exact ⟨g1, rfl⟩
    ·cases e
theorem typF_emb {R R' : Rd} {a q0 : Nat} (h : Emb R R' a q0) : ∀ (f f' : Nat), f <= f' -> TyEmb (typF R f) (typF R' f') a q0 := by
 intro f
 induction f with
 | zero => intro f' _ p t q _ e; cases e
 | succ f ih =>
  intro f' hf p t q hp e
  obtain ⟨g, rfl⟩ : ∃ g, f' = g + 1 := ⟨f' - 1, by omega⟩
  rw [typF] at e ⊢
  have hlt : p < q0 := by
   rcases Nat.lt_or_ge p q0 with h1 | h1
   ·exact h1
   ·obtain rfl : p = q0 := by omega
    rw [h.fin] at e
    cases e
  rw [h.kind p hlt, h.text p hlt, Nat.add_assoc a p 1]
  exact typB_emb h (ih g (by omega)) hlt e
theorem lex_one {u w : List UInt8} {f p k n sk p' : Nat} {t : List UInt8} (hp : p < u.length) (hd : u.drop p = w) (ht : tokF w = .ok k t n) (hs : skipF false (u.drop (p + n)) = sk) (hq : p' = p + n + sk) : lexGo u (f + 1) p = (lexGo u f p').cons ⟨k, t, p⟩ := by
 rw [lexGo, if_neg (by omega), hd, ht]
 dsimp only
 rw [hs, hq]
theorem lex_fin {u : List UInt8} {f p : Nat} (hp : u.length <= p) : lexGo u (f + 1) p = .ok [⟨0, [], u.length⟩] := by
 rw [lexGo, if_pos hp]
theorem skip_in (s Q : List UInt8) : skipF false (32 :: (s ++ 10 :: Q)) = 1 + (if skipF false s < s.length then skipF false s else s.length + 1 + skipF false Q) := by
 have h := skipF_le false s
 have e : skipF false (32 :: (s ++ 10 :: Q)) = 1 + skipF false (s ++ 10 :: Q) := rfl
 rw [e]
 rcases Nat.lt_or_ge (skipF false s) s.length with h1 | h1
 ·rw [if_pos h1, skip_part _ _ _ h1]
 ·rw [if_neg (by omega), skip_full _ _ _ (by omega)]
def srcE (s : List UInt8) : List UInt8 := [40, 49, 32, 58, 32] ++ (s ++ 10 :: [41])
def srcT (s : List UInt8) : List UInt8 := [78, 91, 105, 110, 116, 44, 32] ++ (s ++ 10 :: [93])
theorem lex_srcE (s : List UInt8) (ts : List Tok) (hs : s.length <= 500) (h : lexF s = .ok ts) : ∃ ts0, ts = ts0 ++ [⟨0, [], s.length⟩] /\ ts0.length <= s.length /\ (∀ x ∈ ts0, x.kind ≠ 0) /\
  lexF (srcE s) = .ok (⟨6, [40], 0⟩ :: ⟨3, [49], 1⟩ :: ⟨6, [58], 3⟩ :: (ts0.map (Tok.mv 5) ++ [⟨6, [41], s.length + 6⟩, ⟨0, [], s.length + 7⟩])) := by
 rw [lexF, if_neg (by omega)] at h
 have hul : (srcE s).length = s.length + 7 := by simp [srcE]
 obtain ⟨ts0, rfl, hl0, hnz, hg⟩ := lex_in [40, 49, 32, 58, 32] s [41] (srcE s) rfl (s.length + 1) (skipF false s) ts (skipF_le false s) (by omega) h
 have hl0 : ts0.length <= s.length := by omega
 refine ⟨ts0, rfl, hl0, hnz, ?_⟩
 obtain ⟨g, hgn⟩ : ∃ g, s.length + 5 = g + 2 + ts0.length := ⟨s.length + 3 - ts0.length, by omega⟩
 rw [lexF, if_neg (by omega), hul]
 have e0 : skipF false (srcE s) = 0 := rfl
 rw [e0, show s.length + 7 + 1 = s.length + 5 + 1 + 1 + 1 from by omega]
 rw [lex_one (u := srcE s) (p := 0) (p' := 1) (sk := 0) (w := 40 :: 49 :: 32 :: 58 :: 32 :: (s ++ 10 :: [41])) (k := 6) (t := [40]) (n := 1) (by omega) rfl rfl rfl rfl]
 rw [lex_one (u := srcE s) (p := 1) (p' := 3) (sk := 1) (w := 49 :: 32 :: 58 :: 32 :: (s ++ 10 :: [41])) (k := 3) (t := [49]) (n := 1) (by omega) rfl rfl rfl rfl]
 rw [lex_one (u := srcE s) (p := 3) (w := 58 :: 32 :: (s ++ 10 :: [41])) (k := 6) (t := [58]) (n := 1) (by omega) rfl rfl (skip_in s [41]) rfl]
 have hpos : 3 + 1 + (1 + (if skipF false s < s.length then skipF false s else s.length + 1 + skipF false [41])) = if skipF false s < s.length then ([40, 49, 32, 58, 32] : List UInt8).length + skipF false s else ([40, 49, 32, 58, 32] : List UInt8).length + s.length + 1 + skipF false [41] := by
  simp only [List.length_cons, List.length_nil]
  split <;> omega
 rw [hpos, hgn, hg]
 have e1 : skipF false [41] = 0 := rfl
 simp only [e1, List.length_cons, List.length_nil]
 rw [lex_one (u := srcE s) (p := 0 + 1 + 1 + 1 + 1 + 1 + s.length + 1 + 0) (p' := s.length + 7) (w := [41]) (sk := 0) (k := 6) (t := [41]) (n := 1) (by omega) (by
   rw [srcE, List.drop_append, List.drop_append]
   simp only [List.length_cons, List.length_nil]
   rw [List.drop_of_length_le (by simp only [List.length_cons, List.length_nil]; omega), List.drop_of_length_le (by omega)]
   rw [show 0 + 1 + 1 + 1 + 1 + 1 + s.length + 1 + 0 - (0 + 1 + 1 + 1 + 1 + 1) - s.length = 1 from by omega]
   rfl) rfl (by rw [List.drop_of_length_le (by omega)]; rfl) (by omega)]
 rw [lex_fin (by omega)]
 simp only [LexR.cons, LexR.app, hul]
 rw [show 0 + 1 + 1 + 1 + 1 + 1 + s.length + 1 + 0 = s.length + 6 from by omega]
theorem lex_srcT (s : List UInt8) (ts : List Tok) (hs : s.length <= 500) (h : lexF s = .ok ts) : ∃ ts0, ts = ts0 ++ [⟨0, [], s.length⟩] /\ ts0.length <= s.length /\ (∀ x ∈ ts0, x.kind ≠ 0) /\
  lexF (srcT s) = .ok (⟨2, [78], 0⟩ :: ⟨6, [91], 1⟩ :: ⟨5, [105, 110, 116], 2⟩ :: ⟨6, [44], 5⟩ :: (ts0.map (Tok.mv 7) ++ [⟨6, [93], s.length + 8⟩, ⟨0, [], s.length + 9⟩])) := by
 rw [lexF, if_neg (by omega)] at h
 have hul : (srcT s).length = s.length + 9 := by simp [srcT]
 obtain ⟨ts0, rfl, hl0, hnz, hg⟩ := lex_in [78, 91, 105, 110, 116, 44, 32] s [93] (srcT s) rfl (s.length + 1) (skipF false s) ts (skipF_le false s) (by omega) h
 have hl0 : ts0.length <= s.length := by omega
 refine ⟨ts0, rfl, hl0, hnz, ?_⟩
 obtain ⟨g, hgn⟩ : ∃ g, s.length + 6 = g + 2 + ts0.length := ⟨s.length + 4 - ts0.length, by omega⟩
 rw [lexF, if_neg (by omega), hul]
 have e0 : skipF false (srcT s) = 0 := rfl
 rw [e0, show s.length + 9 + 1 = s.length + 6 + 1 + 1 + 1 + 1 from by omega]
 rw [lex_one (u := srcT s) (p := 0) (p' := 1) (sk := 0) (w := 78 :: 91 :: 105 :: 110 :: 116 :: 44 :: 32 :: (s ++ 10 :: [93])) (k := 2) (t := [78]) (n := 1) (by omega) rfl rfl rfl rfl]
 rw [lex_one (u := srcT s) (p := 1) (p' := 2) (sk := 0) (w := 91 :: 105 :: 110 :: 116 :: 44 :: 32 :: (s ++ 10 :: [93])) (k := 6) (t := [91]) (n := 1) (by omega) rfl rfl rfl rfl]
 rw [lex_one (u := srcT s) (p := 2) (p' := 5) (sk := 0) (w := 105 :: 110 :: 116 :: 44 :: 32 :: (s ++ 10 :: [93])) (k := 5) (t := [105, 110, 116]) (n := 3) (by omega) rfl rfl rfl rfl]
 rw [lex_one (u := srcT s) (p := 5) (w := 44 :: 32 :: (s ++ 10 :: [93])) (k := 6) (t := [44]) (n := 1) (by omega) rfl rfl (skip_in s [93]) rfl]
 have hpos : 5 + 1 + (1 + (if skipF false s < s.length then skipF false s else s.length + 1 + skipF false [93])) = if skipF false s < s.length then ([78, 91, 105, 110, 116, 44, 32] : List UInt8).length + skipF false s else ([78, 91, 105, 110, 116, 44, 32] : List UInt8).length + s.length + 1 + skipF false [93] := by
  simp only [List.length_cons, List.length_nil]
  split <;> omega
 rw [hpos, hgn, hg]
 have e1 : skipF false [93] = 0 := rfl
 simp only [e1, List.length_cons, List.length_nil]
 rw [lex_one (u := srcT s) (p := 0 + 1 + 1 + 1 + 1 + 1 + 1 + 1 + s.length + 1 + 0) (p' := s.length + 9) (w := [93]) (sk := 0) (k := 6) (t := [93]) (n := 1) (by omega) (by
   rw [srcT, List.drop_append, List.drop_append]
   simp only [List.length_cons, List.length_nil]
   rw [List.drop_of_length_le (by simp only [List.length_cons, List.length_nil]; omega), List.drop_of_length_le (by omega)]
   rw [show 0 + 1 + 1 + 1 + 1 + 1 + 1 + 1 + s.length + 1 + 0 - (0 + 1 + 1 + 1 + 1 + 1 + 1 + 1) - s.length = 1 from by omega]
   rfl) rfl (by rw [List.drop_of_length_le (by omega)]; rfl) (by omega)]
 rw [lex_fin (by omega)]
 simp only [LexR.cons, LexR.app, hul]
 rw [show 0 + 1 + 1 + 1 + 1 + 1 + 1 + 1 + s.length + 1 + 0 = s.length + 8 from by omega]
theorem tok_get {R : Rd} {p : Nat} {t : Tok} (h : R.ts[p]? = some t) : R.tok p = t := by rw [Rd.tok, h]; rfl
theorem emb_of {R R' : Rd} {PT ts0 QT : List Tok} {x : Tok} {n m : Nat} (hR : R.ts = ts0 ++ [⟨0, [], n⟩]) (hR' : R'.ts = PT ++ (ts0.map (Tok.mv m) ++ x :: QT)) (hx : isTok x [91] = false) : Emb R R' PT.length ts0.length := by
 have hin : ∀ i, i < ts0.length -> R'.tok (PT.length + i) = (R.tok i).mv m := by
  intro i hi
  have h1 : R.ts[i]? = some ts0[i] := by rw [hR, List.getElem?_append_left hi, List.getElem?_eq_getElem hi]
  have h2 : R'.ts[PT.length + i]? = some (ts0[i].mv m) := by
   rw [hR', List.getElem?_append_right (by omega), show PT.length + i - PT.length = i from by omega, List.getElem?_append_left (by simpa using hi), List.getElem?_map, List.getElem?_eq_getElem hi]
   rfl
  rw [tok_get h1, tok_get h2]
 refine ⟨?_, fun i hi => by rw [hin i hi]; rfl, fun i hi => by rw [hin i hi]; rfl, ?_, ?_⟩
 ·have h1 : R.ts[ts0.length]? = some ⟨0, [], n⟩ := by rw [hR, List.getElem?_append_right (Nat.le_refl _), Nat.sub_self]; rfl
  rw [tok_get h1]
 ·have h2 : R'.ts[PT.length + ts0.length]? = some x := by
   rw [hR', List.getElem?_append_right (by omega), show PT.length + ts0.length - PT.length = ts0.length from by omega, List.getElem?_append_right (by simp), List.length_map, Nat.sub_self]
   rfl
  rw [tok_get h2]
  exact hx
 ·rw [hR, hR']
  simp only [List.length_append, List.length_cons, List.length_nil, List.length_map]
  omega
def preM : List UInt8 := [109, 111, 100, 117, 108, 101, 32, 109, 47, 118, 49, 32, 108, 101, 116, 32, 118, 58, 32]
def srcM (s : List UInt8) : List UInt8 := preM ++ (s ++ 10 :: [61, 32, 49])
theorem lex_srcM (s : List UInt8) (ts : List Tok) (hs : s.length <= 500) (h : lexF s = .ok ts) : ∃ ts0, ts = ts0 ++ [⟨0, [], s.length⟩] /\ ts0.length <= s.length /\ (∀ x ∈ ts0, x.kind ≠ 0) /\
  lexF (srcM s) = .ok (⟨5, [109, 111, 100, 117, 108, 101], 0⟩ :: ⟨1, [109], 7⟩ :: ⟨6, [47], 8⟩ :: ⟨1, [118, 49], 9⟩ :: ⟨5, [108, 101, 116], 12⟩ :: ⟨1, [118], 16⟩ :: ⟨6, [58], 17⟩ ::
   (ts0.map (Tok.mv 19) ++ [⟨6, [61], s.length + 20⟩, ⟨3, [49], s.length + 22⟩, ⟨0, [], s.length + 23⟩])) := by
 rw [lexF, if_neg (by omega)] at h
 have hul : (srcM s).length = s.length + 23 := by simp [srcM, preM]
 obtain ⟨ts0, rfl, hl0, hnz, hg⟩ := lex_in preM s [61, 32, 49] (srcM s) rfl (s.length + 1) (skipF false s) ts (skipF_le false s) (by omega) h
 have hl0 : ts0.length <= s.length := by omega
 refine ⟨ts0, rfl, hl0, hnz, ?_⟩
 obtain ⟨g, hgn⟩ : ∃ g, s.length + 17 = g + 3 + ts0.length := ⟨s.length + 14 - ts0.length, by omega⟩
 rw [lexF, if_neg (by omega), hul]
 have e0 : skipF false (srcM s) = 0 := rfl
 have hpl : preM.length = 19 := rfl
 rw [e0, show s.length + 23 + 1 = s.length + 17 + 1 + 1 + 1 + 1 + 1 + 1 + 1 from by omega]
 rw [lex_one (u := srcM s) (p := 0) (p' := 7) (sk := 1) (w := srcM s) (k := 5) (t := [109, 111, 100, 117, 108, 101]) (n := 6) (by omega) rfl rfl rfl rfl]
 rw [lex_one (u := srcM s) (p := 7) (p' := 8) (sk := 0) (w := 109 :: 47 :: 118 :: 49 :: 32 :: 108 :: 101 :: 116 :: 32 :: 118 :: 58 :: 32 :: (s ++ 10 :: [61, 32, 49])) (k := 1) (t := [109]) (n := 1) (by omega) rfl rfl rfl rfl]
 rw [lex_one (u := srcM s) (p := 8) (p' := 9) (sk := 0) (w := 47 :: 118 :: 49 :: 32 :: 108 :: 101 :: 116 :: 32 :: 118 :: 58 :: 32 :: (s ++ 10 :: [61, 32, 49])) (k := 6) (t := [47]) (n := 1) (by omega) rfl rfl rfl rfl]
 rw [lex_one (u := srcM s) (p := 9) (p' := 12) (sk := 1) (w := 118 :: 49 :: 32 :: 108 :: 101 :: 116 :: 32 :: 118 :: 58 :: 32 :: (s ++ 10 :: [61, 32, 49])) (k := 1) (t := [118, 49]) (n := 2) (by omega) rfl rfl rfl rfl]
 rw [lex_one (u := srcM s) (p := 12) (p' := 16) (sk := 1) (w := 108 :: 101 :: 116 :: 32 :: 118 :: 58 :: 32 :: (s ++ 10 :: [61, 32, 49])) (k := 5) (t := [108, 101, 116]) (n := 3) (by omega) rfl rfl rfl rfl]
 rw [lex_one (u := srcM s) (p := 16) (p' := 17) (sk := 0) (w := 118 :: 58 :: 32 :: (s ++ 10 :: [61, 32, 49])) (k := 1) (t := [118]) (n := 1) (by omega) rfl rfl rfl rfl]
 rw [lex_one (u := srcM s) (p := 17) (w := 58 :: 32 :: (s ++ 10 :: [61, 32, 49])) (k := 6) (t := [58]) (n := 1) (by omega) rfl rfl (skip_in s [61, 32, 49]) rfl]
 have hpos : 17 + 1 + (1 + (if skipF false s < s.length then skipF false s else s.length + 1 + skipF false [61, 32, 49])) = if skipF false s < s.length then preM.length + skipF false s else preM.length + s.length + 1 + skipF false [61, 32, 49] := by
  rw [hpl]
  split <;> omega
 have hdr : ∀ n, (srcM s).drop (s.length + 20 + n) = ([61, 32, 49] : List UInt8).drop n := by
  intro n
  rw [srcM, List.drop_append, List.drop_of_length_le (by rw [hpl]; omega), List.nil_append, hpl, List.drop_append, List.drop_of_length_le (by omega), List.nil_append, show s.length + 20 + n - 19 - s.length = n + 1 from by omega]
  rfl
 rw [hpos, hgn, hg]
 have e1 : skipF false [61, 32, 49] = 0 := rfl
 simp only [e1, hpl]
 rw [lex_one (u := srcM s) (p := 19 + s.length + 1 + 0) (p' := s.length + 22) (w := [61, 32, 49]) (sk := 1) (k := 6) (t := [61]) (n := 1) (by omega) (by
   rw [show 19 + s.length + 1 + 0 = s.length + 20 + 0 from by omega, hdr]; rfl) rfl (by rw [show 19 + s.length + 1 + 0 + 1 = s.length + 20 + 1 from by omega, hdr]; rfl) (by omega)]
 rw [lex_one (u := srcM s) (p := s.length + 22) (p' := s.length + 23) (w := [49]) (sk := 0) (k := 3) (t := [49]) (n := 1) (by omega) (by
   rw [show s.length + 22 = s.length + 20 + 2 from by omega, hdr]; rfl) rfl (by rw [show s.length + 22 + 1 = s.length + 20 + 3 from by omega, hdr]; rfl) (by omega)]
 rw [lex_fin (by omega)]
 simp only [LexR.cons, LexR.app, hul]
 rw [show 19 + s.length + 1 + 0 = s.length + 20 from by omega]
structure SrcOk (s : List UInt8) (t : Ty) (ts0 : List Tok) : Prop where
 len : s.length <= 500
 lex : lexF s = .ok (ts0 ++ [⟨0, [], s.length⟩])
 few : ts0.length <= s.length
 nz : ∀ x ∈ ts0, x.kind ≠ 0
 typ : typF ⟨0, 0, ts0 ++ [⟨0, [], s.length⟩]⟩ (ts0.length + 1) 0 = .ok t ts0.length
 bad : badT t = false
 all : AllW t
 size : tsize t <= 500
theorem srcOk_of {s : List UInt8} {t : Ty} {off : Nat} (hs : s.length <= 500) (h : parseF s = (t, off, 0)) : ∃ ts0, SrcOk s t ts0 := by
 unfold parseF at h
 cases hx : lexF s with
 | err o e => rw [hx] at h; cases h; exact absurd rfl (lexF_err hx)
 | ok ts =>
  rw [hx] at h
  dsimp only at h
  obtain ⟨ts0, rfl, h1, h2, _⟩ := lex_srcE s ts hs hx
  obtain ⟨w, hpos⟩ := Rd.wf_of (R := ⟨0, 0, ts0 ++ [⟨0, [], s.length⟩]⟩) hx
  have hnm := Rd.nm_of (R := ⟨0, 0, ts0 ++ [⟨0, [], s.length⟩]⟩) hx
  have hl : (ts0 ++ [(⟨0, [], s.length⟩ : Tok)]).length = ts0.length + 1 := by simp
  rw [hl] at h
  cases hy : typF ⟨0, 0, ts0 ++ [⟨0, [], s.length⟩]⟩ (ts0.length + 1) 0 with
  | bad o e => rw [hy] at h; cases h; exact absurd rfl (typF_E _ _ _ _ _ hy)
  | ok t' q =>
   rw [hy] at h
   dsimp only at h
   obtain ⟨ha, hsz, _, hq⟩ := typF_good w hnm _ 0 t' q (Nat.le_refl _) hpos hy
   have hq : q < (ts0 ++ [(⟨0, [], s.length⟩ : Tok)]).length := hq
   rw [hl] at hq
   split at h
   ·cases h
   ·rename_i hk
    split at h
    ·cases h
    ·rename_i hb
     cases h
     have hqe : q = ts0.length := by
      rcases Nat.lt_or_ge q ts0.length with h3 | h3
      ·exfalso
       apply hk
       have e := tok_get (R := (⟨0, 0, ts0 ++ [(⟨0, [], s.length⟩ : Tok)]⟩ : Rd)) (p := q) (t := ts0[q]) (by
        show (ts0 ++ _)[q]? = _
        rw [List.getElem?_append_left h3, List.getElem?_eq_getElem h3])
       rw [e]
       exact h2 _ (List.getElem_mem h3)
      ·omega
     subst hqe
     exact ⟨ts0, hs, hx, h1, h2, hy, by simpa using hb, ha, by omega⟩
theorem SrcOk.inn {s : List UInt8} {t : Ty} {ts0 : List Tok} (h : SrcOk s t ts0) {R' : Rd} {PT QT : List Tok} {x : Tok} {m : Nat} (hR' : R'.ts = PT ++ (ts0.map (Tok.mv m) ++ x :: QT)) (hx : isTok x [91] = false) {f : Nat} (hf : ts0.length + 1 <= f) : typF R' f PT.length = .ok t (PT.length + ts0.length) :=
 (typF_emb (emb_of (R := ⟨0, 0, ts0 ++ [⟨0, [], s.length⟩]⟩) rfl hR' hx) _ f hf 0 t ts0.length (Nat.zero_le _) h.typ).2
def intT : Ty := .mk 2 [] [] [] []
def refT (t : Ty) : Ty := .mk 10 [] [78] [intT, t] []
theorem parse_srcT {s : List UInt8} {t : Ty} {ts0 : List Tok} (h : SrcOk s t ts0) (hd : tdepth t < 32) : parseF (srcT s) = (refT t, 0, 0) := by
 obtain ⟨ts1, e1, _, _, hl⟩ := lex_srcT s _ h.len h.lex
 obtain rfl : ts1 = ts0 := (List.append_inj_left' e1 rfl).symm
 rw [parseF, hl]
 dsimp only
 generalize hTS : (_ :: _ :: _ :: _ :: (ts1.map (Tok.mv 7) ++ _) : List Tok) = TS
 have hlen : TS.length = ts1.length + 6 := by rw [<- hTS]; simp
 have hin : ∀ f, ts1.length + 1 <= f -> typF ⟨0, 0, TS⟩ f 4 = .ok t (4 + ts1.length) := fun f hf =>
  h.inn (R' := ⟨0, 0, TS⟩) (PT := [⟨2, [78], 0⟩, ⟨6, [91], 1⟩, ⟨5, [105, 110, 116], 2⟩, ⟨6, [44], 5⟩]) (m := 7) (x := ⟨6, [93], s.length + 8⟩) (QT := [⟨0, [], s.length + 9⟩]) hTS.symm rfl hf
 have g0 : Rd.tok ⟨0, 0, TS⟩ 0 = ⟨2, [78], 0⟩ := by rw [<- hTS]; rfl
 have g1 : Rd.tok ⟨0, 0, TS⟩ 1 = ⟨6, [91], 1⟩ := by rw [<- hTS]; rfl
 have g2 : Rd.tok ⟨0, 0, TS⟩ 2 = ⟨5, [105, 110, 116], 2⟩ := by rw [<- hTS]; rfl
 have g3 : Rd.tok ⟨0, 0, TS⟩ 3 = ⟨6, [44], 5⟩ := by rw [<- hTS]; rfl
 have gq : ∀ j x, ([⟨6, [93], s.length + 8⟩, ⟨0, [], s.length + 9⟩] : List Tok)[j]? = some x -> Rd.tok ⟨0, 0, TS⟩ (4 + ts1.length + j) = x := by
  intro j x hx
  refine tok_get ?_
  show TS[4 + ts1.length + j]? = _
  rw [<- hTS, show 4 + ts1.length + j = (ts1.length + j) + 1 + 1 + 1 + 1 from by omega]
  simp only [List.getElem?_cons_succ]
  rw [List.getElem?_append_right (by simp), List.length_map, show ts1.length + j - ts1.length = j from by omega]
  exact hx
 have gp := gq 0 _ rfl
 have ge := gq 1 _ rfl
 obtain ⟨f, hf⟩ : ∃ f, TS.length = f + 1 + 1 := ⟨ts1.length + 4, by omega⟩
 have hint : typF ⟨0, 0, TS⟩ (f + 1) 2 = .ok intT 3 := by
  rw [typF, g2]
  rfl
 have hy : typF ⟨0, 0, TS⟩ (f + 1 + 1) 0 = .ok (refT t) (4 + ts1.length + 1) := by
  rw [typF, g0]
  have hz : argsF (typF ⟨0, 0, TS⟩ (f + 1)) ⟨0, 0, TS⟩ 1 = .ok [intT, t] (4 + ts1.length + 1) := by
   rw [argsF, g1, if_pos (by decide)]
   show argsLoop _ _ TS.length [] 2 = _
   rw [hf, argsLoop, hint]
   dsimp only
   rw [g3, if_pos (by decide), argsLoop, hin _ (by omega)]
   dsimp only
   rw [show 4 + ts1.length + 0 = 4 + ts1.length from rfl] at gp
   rw [gp, if_neg (c := isTok ⟨6, [93], s.length + 8⟩ [44] = true) Bool.false_ne_true]
   rw [needF, gp, if_pos (c := isTok ⟨6, [93], s.length + 8⟩ [93] = true) rfl]
   rfl
  unfold typB
  rw [if_neg (by decide), if_neg (by decide), if_pos rfl]
  show (argsF _ _ 1).map _ = _
  rw [hz]
  rfl
 rw [hf, hy]
 dsimp only
 rw [ge, if_neg (by simp)]
 have hb : badT (refT t) = false := by
  have hs := h.size
  have hb := h.bad
  unfold badT at hb ⊢
  simp only [Bool.or_eq_false_iff, decide_eq_false_iff_not] at hb ⊢
  simp only [refT, intT, tsize, tsizeL, tsizeF, tdepth, tdepthL, tdepthF, tbig, tbigL, tbigF, hb.2]
  refine ⟨⟨by omega, by omega⟩, rfl⟩
 rw [hb]
 rfl
end Go.Proofs.YthfehkcfhiilfaaGreatDoor
