/- Reading a source. -/
import Derived.Test.YthfehkcfhiilfaaGreatDoorKRd
namespace Go.Proofs.YthfehkcfhiilfaaGreatDoor
open Go.AM Go.VM
theorem map_ok {α β : Type} {g : α -> β} {x : PR α} {b : β} {q : Nat} (h : x.map g = .ok b q) : ∃ a, x = .ok a q /\ g a = b := by
 cases x with
 | ok a p => cases h; exact ⟨a, rfl, rfl⟩
 | bad o e => cases h
theorem typB_lt {ty : Nat -> PR Ty} {R : Rd} (w : R.Wf) {kind : Nat} {text : List UInt8} {off p q : Nat} {t : Ty} (ht : ∀ p' t q, p <= p' -> p' < R.ts.length -> ty p' = .ok t q -> p' < q /\ q < R.ts.length)
  (hp : kind ≠ 0 -> p < R.ts.length) (h : typB ty R kind text off p = .ok t q) : p <= q /\ q < R.ts.length := by
 unfold typB at h
 split at h
 ·have hp := hp (by omega)
  split at h
  ·cases h; exact ⟨Nat.le_refl _, hp⟩
  ·split at h
   ·obtain ⟨a, ha, _⟩ := map_ok h
    exact bracketF_lt w ht hp ha
   ·split at h
    ·cases hn : needF R [[40]] p with
     | bad o e => rw [hn] at h; cases h
     | ok u q1 =>
      rw [hn] at h
      dsimp only at h
      have hm := needF_mono _ _ _ hn
      have hq := needF_lt w _ _ _ hp hn
      cases hf : fieldsF ty R [44] [41] true q1 with
      | bad o e => rw [hf] at h; cases h
      | ok l q2 =>
       rw [hf] at h
       dsimp only at h
       obtain ⟨g1, g2⟩ := fieldsF_lt w (fun p' t q h1 => ht p' t q (by omega)) hq hf
       obtain ⟨a, ha, _⟩ := map_ok h
       obtain ⟨g3, g4⟩ := ht q2 a q (by omega) g2 ha
       exact ⟨by omega, g4⟩
    ·cases h
 ·split at h
  ·have hp := hp (by omega)
   split at h
   ·obtain ⟨a, ha, _⟩ := map_ok h
    exact fieldsF_lt w ht hp ha
   ·split at h
    ·obtain ⟨a, ha, _⟩ := map_ok h
     exact fieldsF_lt w ht hp ha
    ·cases h
  ·split at h
   ·obtain ⟨a, ha, _⟩ := map_ok h
    exact argsF_lt w ht (hp (by omega)) ha
   ·split at h
    ·have hp := hp (by omega)
     cases hn : needF R [[58, 58]] p with
     | bad o e => rw [hn] at h; cases h
     | ok u q1 =>
      rw [hn] at h
      dsimp only at h
      have hm := needF_mono _ _ _ hn
      have hq := needF_lt w _ _ _ hp hn
      split at h
      ·cases h
      ·rename_i hk
       have hk : (R.tok q1).kind = 2 := by simpa using hk
       obtain ⟨a, ha, _⟩ := map_ok h
       obtain ⟨g1, g2⟩ := argsF_lt w (fun p' t q h1 => ht p' t q (by omega)) (w.go q1 _ (Rd.tok_some hq) (by omega)) ha
       exact ⟨by omega, g2⟩
    ·cases h
theorem typF_lt {R : Rd} (w : R.Wf) : ∀ (f p : Nat) (t : Ty) (q : Nat), p < R.ts.length -> typF R f p = .ok t q -> p < q /\ q < R.ts.length := by
 intro f
 induction f with
 | zero => intro p t q _ h; cases h
 | succ f ih =>
  intro p t q hp h
  rw [typF] at h
  obtain ⟨a, b⟩ := typB_lt w (p := p + 1) (fun p' t q _ h1 h2 => ih p' t q h1 h2) (fun hk => w.go p _ (Rd.tok_some hp) hk) h
  exact ⟨by omega, b⟩
theorem typ_ok {R : Rd} (w : R.Wf) : ∀ (f lo : Nat), R.ts.length - lo <= f -> TypOk (typF R f) R lo := by
 intro f
 induction f with
 | zero => intro lo h; exact ⟨fun p t q h1 h2 => by omega, fun p h1 h2 => by omega⟩
 | succ f ih =>
  intro lo h
  refine ⟨fun p t q _ h2 h3 => typF_lt w _ p t q h2 h3, fun p h1 h2 i σ K hσ k1 k2 => ?_⟩
  refine VCall.one (args0 := [.bp 0 0]) (P := tyK R (typF R (f + 1) p)) (typ_spec0 R w f p h2 (ih (p + 1) (by omega))) i hσ rfl rfl rfl (fun r cs' h => ?_)
  unfold tyK at h
  split at h
  ·rename_i t q e
   obtain ⟨rfl, d, hd, rfl⟩ := h
   exact k1 t d q e hd
  ·rename_i off er e
   obtain ⟨q, rfl, rfl⟩ := h
   exact k2 off er q e
def TokG (s : List UInt8) (t : Tok) : Prop := (t.kind = 1 -> isName t.text = true) /\ (t.kind = 2 -> isType t.text = true) /\ t.off <= s.length
theorem tokF_name {l t : List UInt8} {k n : Nat} (h : tokF l = .ok k t n) : k ≠ 0 /\ (k = 1 -> isName t = true) /\ (k = 2 -> isType t = true) := by
 cases l with
 | nil => cases h
 | cons c r =>
  rw [tokF] at h
  split at h
  ·unfold wordTok at h
   split at h
   ·cases h; exact ⟨by omega, fun h => by omega, fun h => by omega⟩
   ·split at h
    ·rename_i h2; cases h; exact ⟨by omega, fun _ => h2, fun h => by omega⟩
    ·split at h
     ·rename_i h2; cases h; exact ⟨by omega, fun h => by omega, fun _ => h2⟩
     ·cases h
  ·split at h
   ·unfold numTok at h
    split at h
    ·cases h
    ·cases h; exact ⟨by omega, fun h => by omega, fun h => by omega⟩
   ·split at h
    ·split at h
     ·cases h; exact ⟨by omega, fun h => by omega, fun h => by omega⟩
     ·cases h
    ·split at h
     ·cases h
     ·cases h; exact ⟨by omega, fun h => by omega, fun h => by omega⟩
theorem lexGo_wf (s : List UInt8) : ∀ (f at0 : Nat) (l : List Tok), s.length - at0 < f -> lexGo s f at0 = .ok l ->
  l ≠ [] /\ (∀ p t, l[p]? = some t -> t.kind ≠ 0 -> p + 1 < l.length) /\ l.length <= s.length - at0 + 1 /\ ∀ t ∈ l, TokG s t := by
 intro f
 induction f with
 | zero => intro at0 l h; omega
 | succ f ih =>
  intro at0 l hf h
  rw [lexGo] at h
  split at h
  ·cases h
   refine ⟨by simp, fun p t hp hk => ?_, by simp, fun t ht => ?_⟩
   ·cases p with
    | zero => simp at hp; subst hp; exact absurd rfl hk
    | succ p => simp at hp
   ·simp at ht; subst ht; exact ⟨fun h => by simp at h, fun h => by simp at h, Nat.le_refl _⟩
  ·rename_i hlt
   cases ht : tokF (s.drop at0) with
   | err e => rw [ht] at h; cases h
   | ok k t n =>
    rw [ht] at h
    dsimp only at h
    obtain ⟨h0, hn⟩ := tokF_len ht
    rw [List.length_drop] at hn
    cases hr : lexGo s f (at0 + n + skipF false (s.drop (at0 + n))) with
    | err a b => rw [hr] at h; cases h
    | ok l' =>
     rw [hr] at h
     cases h
     obtain ⟨i1, i2, i3, i4⟩ := ih _ l' (by omega) hr
     have hpos : 0 < l'.length := List.length_pos_iff.2 i1
     refine ⟨by simp, fun p t' hp hk => ?_, ?_, fun t' ht' => ?_⟩
     ·cases p with
      | zero => simp only [List.length_cons]; omega
      | succ p =>
       have := i2 p t' (by simpa using hp) hk
       simp only [List.length_cons]; omega
     ·simp only [List.length_cons]; omega
     ·rcases List.mem_cons.1 ht' with rfl | ht'
      ·obtain ⟨_, a, b⟩ := tokF_name ht
       exact ⟨a, b, by show at0 <= s.length; omega⟩
      ·exact i4 t' ht'
theorem lexF_wf {s : List UInt8} {l : List Tok} (h : lexF s = .ok l) : s.length <= 65536 /\ l ≠ [] /\ (∀ p t, l[p]? = some t -> t.kind ≠ 0 -> p + 1 < l.length) /\ l.length <= 65537 /\ ∀ t ∈ l, TokG s t := by
 unfold lexF at h
 split at h
 ·cases h
 ·obtain ⟨a, b, c, d⟩ := lexGo_wf s _ _ l (by omega) h
  exact ⟨by omega, a, b, by omega, d⟩
theorem Rd.wf_of {s : List UInt8} {R : Rd} (h : lexF s = .ok R.ts) : R.Wf /\ 0 < R.ts.length := by
 obtain ⟨_, a, b, c, _⟩ := lexF_wf h
 exact ⟨⟨by omega, b⟩, List.length_pos_iff.2 a⟩
def zeroTyV : V := .agg zeroTy
def readP (s : List UInt8) (r : VCR) : Prop := match lexF s with
 | .err off e => r = .ret (.tup [zeroTyV, intV off, intV e])
 | .ok ts => ∃ b cap, match typF ⟨b, cap, ts⟩ ts.length 0 with
  | .bad off e => r = .ret (.tup [zeroTyV, intV off, intV e])
  | .ok t q => if (Rd.tok ⟨b, cap, ts⟩ q).kind ≠ 0 then r = .ret (.tup [zeroTyV, intV (Rd.tok ⟨b, cap, ts⟩ q).off, intV 3]) else ∃ d, TyD t d /\ r = .ret (.tup [.agg (d.map V.d), intV 0, intV 0])
theorem lexGo_err (s : List UInt8) : ∀ (f at0 off e : Nat), lexGo s f at0 = .err off e -> e ≠ 0 := by
 intro f
 induction f with
 | zero => intro at0 off e h; cases h
 | succ f ih =>
  intro at0 off e h
  rw [lexGo] at h
  split at h
  ·cases h
  ·cases ht : tokF (s.drop at0) with
   | err e' => rw [ht] at h; cases h; exact tokF_err ht
   | ok k t n =>
    rw [ht] at h
    dsimp only at h
    cases hr : lexGo s f (at0 + n + skipF false (s.drop (at0 + n))) with
    | err a b => rw [hr] at h; cases h; exact ih _ _ _ hr
    | ok l' => rw [hr] at h; cases h
theorem lexF_err {s : List UInt8} {off e : Nat} (h : lexF s = .err off e) : e ≠ 0 := by
 unfold lexF at h
 split at h
 ·cases h; decide
 ·exact lexGo_err s _ _ _ _ h
theorem lex_spec' (s : List UInt8) {σ : VS} {K : VCR -> VS -> Prop} (hk : ∀ r, lexP (lexF s) r -> K r σ) : VCall C intr0 F.lexer_Lex [strV s] σ K := by
 by_cases hs : s.length < 4294967296
 ·exact lex_spec s hs hk
 ·refine VCall.closed (P := lexP (lexF s)) ?_ rfl hk
  refine VCall.b1 xfz (fun _ => rfl) ?_
  refine vci (fun h => ?_) (fun h => absurd (dnlt (a := 65536) h) (by omega))
  have h' := dlt (a := 65536) h
  refine VUpd.drop 0 rfl rfl rfl (VUpd.now rfl ⟨rfl, rfl, ?_⟩)
  rw [lexF, if_pos h']
  rfl
set_option maxRecDepth 100000 in
set_option maxHeartbeats 8000000 in
theorem read_spec (s : List UInt8) {σ : VS} {K : VCR -> VS -> Prop} (hk : ∀ r, readP s r -> K r σ) : VCall C intr0 F.parser_read_api_Type [strV s, .fn F.reader_typ [] []] σ K := by
 refine VCall.closed (P := readP s) ?_ rfl hk
 refine VCall.b1 nofz (fun _ => rfl) ?_
 refine lex_spec' s (fun r hr => ?_)
 cases hx : lexF s with
 | err off e =>
  rw [hx] at hr
  obtain rfl : r = _ := hr
  have he := lexF_err hx
  refine vci (fun h => ?_) (fun h => absurd (nz_of h) he)
  repeat refine vni (by repeat' (first | exact trivial | exact rfl | refine vnf rfl ?_ | refine And.intro ?_ ?_)) ?_
  refine VUpd.drop 0 ?_ ?_ ?_ ?_
  iterate 3 exact rfl
  refine VUpd.now rfl ⟨rfl, rfl, ?_⟩
  unfold readP
  rw [hx]
  rfl
 | ok ts =>
  rw [hx] at hr
  obtain ⟨b, cap, rfl⟩ := hr
  obtain ⟨w, hpos⟩ := Rd.wf_of (R := ⟨b, cap, ts⟩) hx
  refine (typ_ok w ts.length 0 (by show ts.length - 0 <= ts.length; omega)).call 0 (Nat.le_refl _) hpos 4 _ _ ?_ (fun t d q e1 hd => ?_) (fun off e q e1 => ?_)
  ·exact rfl
  ·obtain ⟨k, m, n, a, fl, rfl⟩ := hd.five
   obtain ⟨_, hq⟩ := typF_lt w _ _ _ _ hpos e1
   refine peek_spec ⟨b, cap, ts⟩ q _ (Rd.tok_some hq) 4 ?_ ?_
   ·exact rfl
   refine vci (fun h => ?_) (fun h => ?_)
   ·have h' : (Rd.tok ⟨b, cap, ts⟩ q).kind ≠ 0 := fun e => by rw [e] at h; cases h
    refine fail_spec _ (Rd.tok ⟨b, cap, ts⟩ q).off 3 ?_
    refine VCallD.body nofz ?_
    repeat refine vni (by repeat' (first | exact trivial | exact rfl | refine vnf rfl ?_ | refine And.intro ?_ ?_)) ?_
    refine VUpd.drop 0 ?_ ?_ ?_ ?_
    iterate 3 exact rfl
    refine VUpd.now rfl ⟨rfl, rfl, ?_⟩
    unfold readP
    rw [hx]
    refine ⟨b, cap, ?_⟩
    rw [e1]
    dsimp only
    rw [if_pos h']
    rfl
   ·have h' : (Rd.tok ⟨b, cap, ts⟩ q).kind = 0 := nz_of h
    refine VCallD.body nofz ?_
    refine VUpd.drop 0 ?_ ?_ ?_ ?_
    iterate 3 exact rfl
    refine VUpd.now rfl ⟨rfl, rfl, ?_⟩
    unfold readP
    rw [hx]
    refine ⟨b, cap, ?_⟩
    rw [e1]
    dsimp only
    rw [if_neg (by omega)]
    exact ⟨_, hd, rfl⟩
  ·refine VCallD.body nofz ?_
   repeat refine vni (by repeat' (first | exact trivial | exact rfl | refine vnf rfl ?_ | refine And.intro ?_ ?_)) ?_
   refine VUpd.drop 0 ?_ ?_ ?_ ?_
   iterate 3 exact rfl
   refine VUpd.now rfl ⟨rfl, rfl, ?_⟩
   unfold readP
   rw [hx]
   refine ⟨b, cap, ?_⟩
   rw [e1]
   rfl
end Go.Proofs.YthfehkcfhiilfaaGreatDoor
