/- Contract of the reference's fields. -/
import Derived.Test.YtifncjhjnjldmaaGreatDoorKPa
namespace Go.Proofs.YtifncjhjnjldmaaGreatDoor set_option linter.unusedSimpArgs false set_option linter.unusedVariables false
open Go.AM Go.VM
theorem names_spec (xs : List FE) (n : Nat) (hn : n = xs.length) (hl : n < 4294967296) (i : Nat) {σ : VS} {K : VCR -> VS -> Prop} (hσ : nth σ i = some (.row 7 (rows xs))) (hk : ∀ b, K (.ret (.d (.ps b 0 1 n (strsC (xs.map FE.n))))) σ) :
  VCall C intr0 F.modcertref05_fieldNames [.ms i 7 0 n n] σ K := by
 refine VCall.oneR (args0 := [.ms 0 7 0 n n]) (P := fun r els => els = rows xs /\ ∃ b, r = .ret (.d (.ps b 0 1 n (strsC (xs.map FE.n))))) ((names_spec0 xs n hn hl).mono fun r σ' h => ?_) i hσ (rows_closed xs) rfl rfl (fun r els h => ?_)
 ·obtain ⟨rfl, b, rfl⟩ := h
  exact ⟨rows xs, rfl, rfl, rows_closed xs, rfl, b, rfl⟩
 ·obtain ⟨rfl, b, rfl⟩ := h
  rw [set_same hσ]
  exact hk b
theorem rfields_err (R : Rd) (w : R.Wf) (ty : Nat -> PR Ty) (lo : Nat) (ht : RTyp ty R lo) (x : RS) (hx : x.e ≠ 0) (hp : x.p < R.ts.length) (sep fin : List UInt8) (opt : Bool) {σ : VS} {K : VCR -> VS -> Prop} (hk : K (.ret (.tup [.d .nils, x.v R])) σ) : VCall C intr0 F.modcertref05_fields [x.v R, strV sep, strV fin, boolV opt] σ K := by
 refine VCall.pure ?_ rfl rfl hk
 refine VCall.b1 nofz (fun _ => rfl) ?_
 refine ris_spec R x fin hp ?_
 rw [RS.is_err hx]
 refine VCode.loop ?_
 refine rword_spec R w x 1 hp ?_
 rw [RS.word_err hx, RS.wordT, RS.isKind_err hx, if_neg (by decide)]
 refine names_spec [] 0 rfl (by decide) 2 rfl (fun b => ?_)
 refine rplace_spec [] [] b 0 (by decide) ?_
 cases opt with
 | false =>
  refine rexpect_spec R w x [58] hp ?_
  rw [RS.expect_err hx]
  refine ht.err x hx hp _ _ (fun k m n a f => ?_)
  refine vci (fun h9 => ?_) (fun h9 => absurd (nz_of h9) hx)
  repeat refine vni (by repeat' (first | exact trivial | exact rfl | refine vnf rfl ?_ | refine And.intro ?_ ?_)) ?_
  refine fin0 ?_ ?_ <;> exact rfl
 | true =>
  refine ris_spec R x [63] hp ?_
  rw [RS.is_err hx]
  refine rexpect_spec R w x [58] hp ?_
  rw [RS.expect_err hx]
  refine ht.err x hx hp _ _ (fun k m n a f => ?_)
  refine vci (fun h9 => ?_) (fun h9 => absurd (nz_of h9) hx)
  repeat refine vni (by repeat' (first | exact trivial | exact rfl | refine vnf rfl ?_ | refine And.intro ?_ ?_)) ?_
  refine fin0 ?_ ?_ <;> exact rfl
def rflP (R : Rd) (x : PR (List Fld)) (r : VCR) : Prop := match x with
 | .ok l q => ∃ d, FlsD l d /\ r = .ret (.tup [.d d, (RS.at q).v R])
 | .bad off e => e ≠ 0 /\ ∃ d q, q < R.ts.length /\ r = .ret (.tup [.d d, (RS.mk q off e).v R])
def rffz : Nat -> Bool := fun t => Nat.beq t 69 || Nat.beq t 1000012 || Nat.beq t 1000017
def rfS (R : Rd) (p : Nat) (xs : List FE) : VS := [.box [.d (.ps R.b 0 3 R.cap (R.ts.map tokD)), intV p, intV 0, intV 0], .box rst0, .row 7 (rows xs)]
def rfT (sep fin : List UInt8) (opt : Bool) (n : Nat) : Tm := [(1, strV sep), (2, strV fin), (3, boolV opt), (4, .bp 0 0), (8, .d .nils), (9, .bp 1 0), (10, .ms 2 7 0 n n)]
def rfQ (R : Rd) (q : Nat) : List V := [.d (.ps R.b 0 3 R.cap (R.ts.map tokD)), intV q, intV 0, intV 0]
def rfF (n : List UInt8) (o : Bool) : List V := [strV n, .d (.int .i64 0), .d (.str []), .d (.str []), .d .nils, .d .nils, boolV o]
def rfT1 (sep fin : List UInt8) (opt : Bool) (n a : Nat) : Tm := [(1, strV sep), (2, strV fin), (3, boolV opt), (4, .bp 0 0), (8, .d .nils), (9, .bp 1 0), (10, .ms 2 7 0 n n), (13, .bp 3 0), (14, .bp 4 0), (15, intV a)]
def rfT2 (sep fin : List UInt8) (opt : Bool) (n : Nat) : Tm := [(1, strV sep), (2, strV fin), (3, boolV opt), (4, .bp 0 0), (8, .d .nils), (9, .bp 1 0), (10, .ms 2 7 0 n n), (13, .bp 3 0)]
theorem vsrc_all {kk : Nat} {b : Bool} {p : Unit -> Prop} {q : Nat -> Bool -> Prop} (hk : kk = 0) (hb : b = true) (h : p ()) : Go.VM.vsrc.match_1 (fun _ _ => Prop) kk b p q := by
 subst hk hb
 exact h
theorem vsrc_part {kk : Nat} {b : Bool} {p : Unit -> Prop} {q : Nat -> Bool -> Prop} (hk : kk ≠ 0 ∨ b = false) (h : q kk b) : Go.VM.vsrc.match_1 (fun _ _ => Prop) kk b p q := by
 cases kk with
 | succ kk => exact h
 | zero =>
  cases b with
  | false => exact h
  | true => rcases hk with hk | hk <;> simp at hk
theorem nbeq_yes {a b : Nat} (h : a = b) : Nat.beq a b = true := by subst h; exact nbeq_self a
theorem app_mid (V0 Z : List (List V)) (w : List V) (a n : Nat) (hn : Z.length = n) (h : a <= n) : List.take (0 + (List.take (a - 0) (List.drop (0 + 0) Z)).length + 1) (List.drop 0 (List.take (0 + (List.take (a - 0) (List.drop (0 + 0) Z)).length) (List.drop 0 (List.take 0 (List.drop 0 V0) ++ List.take (a - 0) (List.drop (0 + 0) Z))) ++ [w])) ++ List.take (n - a) (List.drop (0 + a) Z) = List.take a Z ++ w :: List.drop a Z := by
 have h2 : List.take (n - a) (List.drop a Z) = List.drop a Z := List.take_of_length_le (by rw [List.length_drop]; omega)
 have h3 : List.take (List.take a Z).length (List.take a Z) = List.take a Z := List.take_length
 simp only [Nat.zero_add, List.drop_zero, List.take_zero, List.nil_append, Nat.sub_zero, h2, h3]
 rw [List.take_of_length_le (by simp), List.append_assoc]
 rfl
theorem app_fst (V0 Z : List (List V)) (w : List V) (a : Nat) (ha : a = 0) : List.take (0 + 1) (List.drop 0 (List.take 0 (List.drop 0 V0) ++ [w])) ++ Z = List.take a Z ++ w :: List.drop a Z := by
 subst ha
 rfl
theorem app_nil (V0 Z : List (List V)) (w : List V) (a : Nat) (hz : Z.length = 0) : List.take 0 (List.drop 0 V0) ++ [w] = List.take a Z ++ w :: List.drop a Z := by
 obtain rfl := List.eq_nil_of_length_eq_zero hz
 simp
theorem app_lst (V0 Z : List (List V)) (w : List V) (a : Nat) (ha : a = Z.length) : List.take (0 + Z.length) (List.drop 0 (List.take 0 (List.drop 0 V0) ++ Z)) ++ [w] = List.take a Z ++ w :: List.drop a Z := by
 subst ha
 simp
theorem nbeq_no {a b : Nat} (h : a ≠ b) : Nat.beq a b = false := by
 cases hb : Nat.beq a b with
 | false => rfl
 | true => exact absurd (Nat.eq_of_beq_eq_true hb) h
theorem nble_no {a b : Nat} (h : b < a) : Nat.ble a b = false := by
 cases hb : Nat.ble a b with
 | false => rfl
 | true => have := Nat.le_of_ble_eq_true hb; omega
theorem rf_out {L i : Nat} {z : List FE} (h : L = z.length) : some (V.ms i 7 0 L L) = some (V.ms i 7 0 z.length z.length) := by rw [h]
theorem rf_pick {π : Nat -> Nat} {l : List (List V)} {z : List FE} (h : l = rows z) : some (VObj.row 7 l) = some (renO π (.row 7 (rows z))) := by
 rw [h]
 exact congrArg some (renO_d π 7 (z.map fe)).symm
theorem rf_fit {c n : Nat} (h : c + n <= 4294967296) : (c + n) * 112 <= limit /\ c + n <= limit := by
 unfold limit
 omega
theorem rf_row {xs : List FE} {x : FE} {l : List (List V)} (hl : l = (rows xs).take (plc (xs.map FE.n) x.n) ++ (fe x).map V.d :: (rows xs).drop (plc (xs.map FE.n) x.n)) : l = rows (insK FE.n x xs) := by
 rw [hl, ins_plc]
 simp only [rows, List.map_append, List.map_cons, List.map_take, List.map_drop]
set_option maxRecDepth 100000 in
set_option maxHeartbeats 16000000 in
theorem rfields_spec0 (R : Rd) (w : R.Wf) (ty : Nat -> PR Ty) (p : Nat) (hp : p < R.ts.length) (ht : RTyp ty R p) (sep fin : List UInt8) (hsf : sep ≠ fin) (opt : Bool) :
  VCall C intr0 F.modcertref05_fields [(RS.at p).v R, strV sep, strV fin, boolV opt] [] fun r σ' => σ' = [] /\ closedCR r = true /\ rflP R (fieldsF ty R sep fin opt p) r := by
 have hlen := w.len
 have hsx : ∀ {t : Tok}, isTok t sep = true -> isTok t fin = false := by
  intro t h
  simp only [isTok, Bool.and_eq_true, decide_eq_true_eq] at h
  rw [isTok, h.1, decide_eq_false hsf]
  rfl
 refine VCall.b1 rffz (fun _ => rfl) ?_
 refine ris_spec R (RS.at p) fin hp ?_
 rw [RS.is_at]
 cases h : isTok (R.tok p) fin with
 | true =>
  refine rnext_spec R (RS.at p) (by show p < 4294967296; omega) ?_
  refine fz_pair (i := 2) (es := 7) (els := []) rfl rfl (fun b => ?_)
  rw [fieldsF, h, if_pos rfl]
  exact ⟨_, .ps .nil, rfl⟩
 | false =>
  refine VCode.arr (tm0 := rfT sep fin opt 0) (σ0 := rfS R p []) (.same ⟨rfl, rfl, rfl, rfl, rfl, rfl, rfl, trivial⟩ rfl) ?_
  refine VCode.iter (fun x : Nat × List Fld × List FE => rfT sep fin opt x.2.2.length) (fun x => rfS R x.1 x.2.2) (fun x => R.ts.length - x.1)
   (fun x => p <= x.1 /\ x.1 < R.ts.length /\ x.2.2.length <= x.1 /\ FlsX (isortK (·.1) x.2.1) x.2.2 /\ (x.2.1.map (·.1)).Nodup /\ ∃ f, R.ts.length - x.1 <= f /\ fieldsF ty R sep fin opt p = (fieldsLoop ty R sep fin opt f x.2.1 x.1).map (isortK (·.1))) ?_ (p, [], []) ⟨Nat.le_refl _, hp, Nat.zero_le _, .nil, List.nodup_nil, R.ts.length, Nat.sub_le _ _, by rw [fieldsF, h, if_neg (by decide)]⟩
  rintro ⟨q, acc, xs⟩ ⟨hq0, hq, hal, hX, hnd, f, hf, he⟩
  have hq0 : p <= q := hq0
  have hq : q < R.ts.length := hq
  have hal : xs.length <= q := hal
  have hX : FlsX (isortK (·.1) acc) xs := hX
  have hnd : (acc.map (·.1)).Nodup := hnd
  have hf : R.ts.length - q <= f := hf
  have he : fieldsF ty R sep fin opt p = (fieldsLoop ty R sep fin opt f acc q).map (isortK (·.1)) := he
  obtain ⟨f, rfl⟩ : ∃ k, f = k + 1 := ⟨f - 1, by omega⟩
  rw [fieldsLoop] at he
  have hsrt : Srt (·.1) (isortK (·.1) acc) := isortK_srt (key := fun x : Fld => x.1) hnd
  have hmem : ∀ s, s ∈ xs.map FE.n ↔ s ∈ acc.map (·.1) := fun s => by
   rw [hX.names]
   exact ((isortK_perm (key := fun x : Fld => x.1) acc).map _).mem_iff
  have hplc : ∀ s, decide ((xs.map FE.n)[plc (xs.map FE.n) s]? = some s) = decide (s ∈ acc.map (·.1)) := fun s => by
   rw [hX.names, plc_mem hsrt s, <- hX.names]
   exact decide_eq_decide.2 (hmem s)
  refine rword_spec R w (RS.at q) 1 hq ?_
  by_cases hk1 : (R.tok q).kind = 1
  ·have hq1 : q + 1 < R.ts.length := w.go q _ (Rd.tok_some hq) (by omega)
   rw [if_neg (fun hne => hne hk1)] at he
   rw [RS.word_yes hk1, RS.wordT, RS.isKind_at, decide_eq_true hk1, if_pos rfl]
   refine names_spec xs xs.length rfl (by omega) 2 rfl (fun b => ?_)
   refine rplace_spec (xs.map FE.n) (R.tok q).text b xs.length (by simp; omega) ?_
   rw [hplc]
   by_cases hin : (R.tok q).text ∈ acc.map (·.1)
   ·rw [decide_eq_true hin]
    rw [if_pos hin] at he
    refine rfail_spec R (RS.at (q + 1)) (R.tok q).off 5 ?_
    rw [show (RS.at (q + 1)).fail (R.tok q).off 5 = ⟨q + 1, (R.tok q).off, 5⟩ from rfl]
    cases opt with
    | false =>
     refine VCode.ofVc ?_
     refine rexpect_spec R w _ [58] hq1 ?_
     rw [RS.expect_err (Nat.succ_ne_zero _)]
     refine ht.err _ (Nat.succ_ne_zero _) hq1 _ _ (fun k m n a f => ?_)
     repeat refine vni (by repeat' (first | exact trivial | exact rfl | refine vnf rfl ?_ | refine And.intro ?_ ?_)) ?_
     refine VUpd.drop 0 ?_ ?_ ?_ ?_
     iterate 3 exact rfl
     refine VUpd.now rfl ⟨rfl, rfl, ?_⟩
     rw [he]
     exact ⟨by decide, _, _, hq1, rfl⟩
    | true =>
     refine ris_spec R _ [63] hq1 ?_
     rw [RS.is_err (Nat.succ_ne_zero _)]
     refine VCode.ofVc ?_
     refine rexpect_spec R w _ [58] hq1 ?_
     rw [RS.expect_err (Nat.succ_ne_zero _)]
     refine ht.err _ (Nat.succ_ne_zero _) hq1 _ _ (fun k m n a f => ?_)
     repeat refine vni (by repeat' (first | exact trivial | exact rfl | refine vnf rfl ?_ | refine And.intro ?_ ?_)) ?_
     refine VUpd.drop 0 ?_ ?_ ?_ ?_
     iterate 3 exact rfl
     refine VUpd.now rfl ⟨rfl, rfl, ?_⟩
     rw [he]
     exact ⟨by decide, _, _, hq1, rfl⟩
   ·rw [decide_eq_false hin]
    rw [if_neg hin] at he
    apply VCode.join (ι := Nat × Bool) (T := fun _ => rfT1 sep fin opt xs.length (plc (xs.map FE.n) (R.tok q).text)) (S := fun z => rfS R q xs ++ [.box (rfQ R z.1), .box (rfF (R.tok q).text z.2)])
     (I := fun z => p <= z.1 /\ q < z.1 /\ z.1 < R.ts.length /\ fieldsF ty R sep fin opt p = (match needF R [[58]] z.1 with
      | .bad o e => .bad o e
      | .ok _ q2 => match ty q2 with
       | .bad o e => .bad o e
       | .ok t q1 => if isTok (R.tok q1) fin then .ok (acc ++ [((R.tok q).text, t, z.2)]) (q1 + 1) else match needF R [sep] q1 with
        | .bad o e => .bad o e
        | .ok _ q3 => fieldsLoop ty R sep fin opt f (acc ++ [((R.tok q).text, t, z.2)]) q3 : PR (List Fld)).map (isortK (·.1)))
    ·intro hC
     rcases Bool.eq_false_or_eq_true opt with ho | ho
     rotate_left
     ·simp only [show (opt && isTok (R.tok (q + 1)) [63]) = false by rw [ho]; rfl, Bool.false_eq_true, if_false] at he
      repeat (change vcond _ _ _; first | refine vcn (by with_reducible exact ho) ?_)
      refine VCode.arr (tm0 := rfT1 sep fin opt xs.length (plc (xs.map FE.n) (R.tok q).text)) (σ0 := rfS R q xs ++ [.box (rfQ R (q+1)), .box (rfF (R.tok q).text false)]) (.same ⟨rfl, rfl, rfl, rfl, rfl, rfl, rfl, rfl, rfl, rfl, trivial⟩ rfl) (hC ((q+1), false) ⟨by show p <= (q+1); omega, by show q < (q+1); omega, hq1, he⟩)
     ·repeat (change vcond _ _ _; first | refine vcp (by with_reducible exact ho) ?_)
      refine ris_spec R (RS.at (q + 1)) [63] hq1 ?_
      rw [RS.is_at]
      cases h63 : isTok (R.tok (q + 1)) [63] with
      | false =>
       repeat (change vcond _ _ _; first | refine vcp (by with_reducible exact ho) ?_)
       simp only [show (opt && isTok (R.tok (q + 1)) [63]) = false by rw [ho, h63]; rfl, Bool.false_eq_true, if_false] at he
       refine VCode.arr (tm0 := rfT1 sep fin opt xs.length (plc (xs.map FE.n) (R.tok q).text)) (σ0 := rfS R q xs ++ [.box (rfQ R (q+1)), .box (rfF (R.tok q).text false)]) (.same ⟨rfl, rfl, rfl, rfl, rfl, rfl, rfl, rfl, rfl, rfl, trivial⟩ rfl) (hC ((q+1), false) ⟨by show p <= (q+1); omega, by show q < (q+1); omega, hq1, he⟩)
      | true =>
       repeat (change vcond _ _ _; first | refine vcp (by with_reducible exact ho) ?_)
       simp only [show (opt && isTok (R.tok (q + 1)) [63]) = true by rw [ho, h63]; rfl, if_true] at he
       have hq2 := w.step hq1 h63
       refine rnext_spec R (RS.at (q + 1)) (by show q + 1 < 4294967296; omega) ?_
       refine VCode.arr (tm0 := rfT1 sep fin opt xs.length (plc (xs.map FE.n) (R.tok q).text)) (σ0 := rfS R q xs ++ [.box (rfQ R (q+1+1)), .box (rfF (R.tok q).text true)]) (.same ⟨rfl, rfl, rfl, rfl, rfl, rfl, rfl, rfl, rfl, rfl, trivial⟩ rfl) (hC ((q+1+1), true) ⟨by show p <= (q+1+1); omega, by show q < (q+1+1); omega, hq2, he⟩)
    ·rintro ⟨q2, o⟩ ⟨hpq, hqq, hq2, he⟩
     have hpq : p <= q2 := hpq
     have hqq : q < q2 := hqq
     have hq2 : q2 < R.ts.length := hq2
     dsimp only at he
     refine rexpect_spec R w (RS.at q2) [58] hq2 ?_
     cases h5 : isTok (R.tok q2) [58] with
     | false =>
      rw [needF, h5, if_neg (by decide)] at he
      dsimp only at he
      rw [RS.expect_no h5]
      refine ht.err _ (Nat.succ_ne_zero _) hq2 _ _ (fun k m n a f => ?_)
      repeat refine vni (by repeat' (first | exact trivial | exact rfl | refine vnf rfl ?_ | refine And.intro ?_ ?_)) ?_
      refine VUpd.drop 0 ?_ ?_ ?_ ?_
      iterate 3 exact rfl
      refine VUpd.now rfl ⟨rfl, rfl, ?_⟩
      rw [he]
      exact ⟨by decide, _, _, hq2, rfl⟩
     | true =>
      rw [needF, h5, if_pos rfl, needF] at he
      dsimp only at he
      rw [RS.expect_yes h5]
      have hw5 := w.step hq2 h5
      refine ht.call (q2 + 1) (by omega) hw5 _ _ (fun t d q1 e1 hd => ?_) (fun off e q1 k m n a fl e1 hne hq1 => ?_)
      ·obtain ⟨k, m, nm, a, fl, rfl⟩ := hd.five
       obtain ⟨g1, g2⟩ := ht.lt (q2 + 1) _ _ (by omega) hw5 e1
       rw [e1] at he
       dsimp only at he
       have hxn : plc (xs.map FE.n) (R.tok q).text <= xs.length := by have := plc_le (xs.map FE.n) (R.tok q).text; rwa [List.length_map] at this
       obtain ⟨X, hXd⟩ : ∃ X : FE, X = ⟨(R.tok q).text, k, m, nm, a, fl, o⟩ := ⟨_, rfl⟩
       have hX' : FlsX (isortK (·.1) (acc ++ [((R.tok q).text, t, o)])) (insK FE.n X xs) := by
        rw [isortK_snoc]
        have := hX.ins (t := t) (x := X) (by rw [hXd]; exact hd)
        rw [hXd] at this ⊢
        exact this
       have hn' : ((acc ++ [((R.tok q).text, t, o)]).map (·.1)).Nodup := by
        rw [List.map_append, List.nodup_append]
        refine ⟨hnd, by simp, ?_⟩
        intro z hz y hy e
        simp only [List.map_cons, List.map_nil, List.mem_singleton] at hy
        subst hy
        exact hin (e ▸ hz)
       have hzl : (insK FE.n X xs).length = xs.length + 1 := (insK_perm X xs).length_eq
       apply VCode.join (ι := Unit) (T := fun _ => rfT2 sep fin opt (insK FE.n X xs).length) (S := fun _ => rfS R q (insK FE.n X xs) ++ [.box (rfQ R q1)]) (I := fun _ => True)
       ·intro hC
        have hsrc1 : 0 + (plc (xs.map FE.n) (R.tok q).text - 0) <= (rows xs).length := by rw [rows_len]; omega
        have hlim1 : 0 + (((rows xs).drop (0 + 0)).take (plc (xs.map FE.n) (R.tok q).text - 0)).length <= 4294967296 := by rw [List.length_take, List.length_drop, rows_len]; omega
        have hl1 : (((rows xs).drop (0 + 0)).take (plc (xs.map FE.n) (R.tok q).text - 0)).length = plc (xs.map FE.n) (R.tok q).text := by rw [List.length_take, List.length_drop, rows_len]; omega
        have hln : (rows xs).length = xs.length := rows_len xs
        refine vnf rfl (vni ⟨Nat.zero_le _, hxn, Nat.le_refl _, Nat.zero_le _, rfl, rfl, rfl⟩ ?_)
        intro b1
        refine vnf rfl (vni ⟨hxn, Nat.le_refl _, Nat.le_refl _, Nat.zero_le _, rfl, rfl, rfl⟩ ?_)
        repeat refine vni (by repeat' (first | exact trivial | exact rfl | exact hsrc1 | refine vnf rfl (vni ⟨Nat.zero_le _, hxn, Nat.le_refl _, Nat.zero_le _, rfl, rfl, rfl⟩ ?_) | refine vnf rfl (vni ⟨hxn, Nat.le_refl _, Nat.le_refl _, Nat.zero_le _, rfl, rfl, rfl⟩ ?_) | refine And.intro ?_ ?_)) ?_
        by_cases hat0 : plc (xs.map FE.n) (R.tok q).text = 0
        ·by_cases hn0 : xs.length = 0
         ·refine vsrc_all rfl (nbeq_yes (by simp only [rows_len]; omega)) ?_
          refine vni ⟨rfl, rfl, (by simp only [List.length_append, List.length_take, List.length_drop, List.length_map, rows_len, List.length_cons, List.length_nil, vrep]; omega), Nat.le_refl _, (rf_fit (by simp only [List.length_append, List.length_take, List.length_drop, List.length_map, rows_len, List.length_cons, List.length_nil, vrep]; omega)).1, (rf_fit (by simp only [List.length_append, List.length_take, List.length_drop, List.length_map, rows_len, List.length_cons, List.length_nil, vrep]; omega)).2⟩ ?_
          refine vcp (nbeq_yes (by rw [rows_len]; exact hn0)) ?_
          refine vni (by repeat' (first | exact trivial | exact rfl | exact hsrc1 | refine vnf rfl (vni ⟨Nat.zero_le _, hxn, Nat.le_refl _, Nat.zero_le _, rfl, rfl, rfl⟩ ?_) | refine vnf rfl (vni ⟨hxn, Nat.le_refl _, Nat.le_refl _, Nat.zero_le _, rfl, rfl, rfl⟩ ?_) | refine And.intro ?_ ?_)) ?_
          refine vni rfl ?_
          refine vni ⟨rfl, rfl, (by simp only [List.length_append, List.length_take, List.length_drop, List.length_map, rows_len, List.length_cons, List.length_nil, vrep]; omega), Nat.le_refl _, (rf_fit (by simp only [List.length_append, List.length_take, List.length_drop, List.length_map, rows_len, List.length_cons, List.length_nil, vrep]; omega)).1, (rf_fit (by simp only [List.length_append, List.length_take, List.length_drop, List.length_map, rows_len, List.length_cons, List.length_nil, vrep]; omega)).2⟩ ?_
          refine vcn rfl (vcn (lit_full 0) ?_)
          refine vni (by repeat' (first | exact trivial | exact rfl | exact hsrc1 | refine vnf rfl (vni ⟨Nat.zero_le _, hxn, Nat.le_refl _, Nat.zero_le _, rfl, rfl, rfl⟩ ?_) | refine vnf rfl (vni ⟨hxn, Nat.le_refl _, Nat.le_refl _, Nat.zero_le _, rfl, rfl, rfl⟩ ?_) | refine And.intro ?_ ?_)) ?_
          refine vni ⟨rfl, rfl, (by simp only [List.length_append, List.length_take, List.length_drop, List.length_map, rows_len, List.length_cons, List.length_nil, vrep]; omega)⟩ ?_
          refine vsrc_all (by omega) (nbeq_yes (by simp only [rows_len]; omega)) ?_
          refine vni ⟨rfl, rfl, (by simp only [List.length_append, List.length_take, List.length_drop, List.length_map, rows_len, List.length_cons, List.length_nil, vrep]; omega), Nat.le_refl _, (rf_fit (by simp only [List.length_append, List.length_take, List.length_drop, List.length_map, rows_len, List.length_cons, List.length_nil, vrep]; omega)).1, (rf_fit (by simp only [List.length_append, List.length_take, List.length_drop, List.length_map, rows_len, List.length_cons, List.length_nil, vrep]; omega)).2⟩ ?_
          refine vcp (nbeq_yes (by rw [rows_len]; exact hn0)) ?_
          refine vni (by repeat' (first | exact trivial | exact rfl | exact hsrc1 | refine vnf rfl (vni ⟨Nat.zero_le _, hxn, Nat.le_refl _, Nat.zero_le _, rfl, rfl, rfl⟩ ?_) | refine vnf rfl (vni ⟨hxn, Nat.le_refl _, Nat.le_refl _, Nat.zero_le _, rfl, rfl, rfl⟩ ?_) | refine And.intro ?_ ?_)) ?_
          refine vni (by repeat' (first | exact trivial | exact rfl | exact hsrc1 | refine vnf rfl (vni ⟨Nat.zero_le _, hxn, Nat.le_refl _, Nat.zero_le _, rfl, rfl, rfl⟩ ?_) | refine vnf rfl (vni ⟨hxn, Nat.le_refl _, Nat.le_refl _, Nat.zero_le _, rfl, rfl, rfl⟩ ?_) | refine And.intro ?_ ?_)) ?_
          refine VCode.arr (tm0 := rfT2 sep fin opt (insK FE.n X xs).length) (σ0 := rfS R q (insK FE.n X xs) ++ [.box (rfQ R q1)]) ?_ (hC () trivial)
          exact .pick 2 [0, 1, 6, 3] ⟨rfl, rfl, rfl, rfl, rfl, rfl, rf_out (by simp only [hzl, List.length_append, List.length_take, List.length_drop, List.length_map, rows_len, List.length_cons, List.length_nil, vrep]; omega), rfl, trivial⟩ rfl rfl rfl rfl rfl (by decide) ⟨rfl, rfl, rfl, rfl, rf_pick (by refine rf_row ?_; rw [hXd]; exact app_nil _ (rows xs) _ _ (hln.trans hn0)), bdO_d _ 7 _, rfl, rfl, trivial⟩
         ·refine vsrc_part (.inr (nbeq_no (by simp only [rows_len]; omega))) ?_
          refine vni ⟨rfl, rfl, (by simp only [List.length_append, List.length_take, List.length_drop, List.length_map, rows_len, List.length_cons, List.length_nil, vrep]; omega), Nat.le_refl _, (rf_fit (by simp only [List.length_append, List.length_take, List.length_drop, List.length_map, rows_len, List.length_cons, List.length_nil, vrep]; omega)).1, (rf_fit (by simp only [List.length_append, List.length_take, List.length_drop, List.length_map, rows_len, List.length_cons, List.length_nil, vrep]; omega)).2⟩ ?_
          refine vcp (nbeq_yes (by rw [hl1]; exact hat0)) ?_
          refine vni (by repeat' (first | exact trivial | exact rfl | exact hsrc1 | refine vnf rfl (vni ⟨Nat.zero_le _, hxn, Nat.le_refl _, Nat.zero_le _, rfl, rfl, rfl⟩ ?_) | refine vnf rfl (vni ⟨hxn, Nat.le_refl _, Nat.le_refl _, Nat.zero_le _, rfl, rfl, rfl⟩ ?_) | refine And.intro ?_ ?_)) ?_
          refine vni rfl ?_
          refine vni ⟨rfl, rfl, (by simp only [List.length_append, List.length_take, List.length_drop, List.length_map, rows_len, List.length_cons, List.length_nil, vrep]; omega), Nat.le_refl _, (rf_fit (by simp only [List.length_append, List.length_take, List.length_drop, List.length_map, rows_len, List.length_cons, List.length_nil, vrep]; omega)).1, (rf_fit (by simp only [List.length_append, List.length_take, List.length_drop, List.length_map, rows_len, List.length_cons, List.length_nil, vrep]; omega)).2⟩ ?_
          refine vcn rfl (vcn (lit_full 0) ?_)
          refine vni (by repeat' (first | exact trivial | exact rfl | exact hsrc1 | refine vnf rfl (vni ⟨Nat.zero_le _, hxn, Nat.le_refl _, Nat.zero_le _, rfl, rfl, rfl⟩ ?_) | refine vnf rfl (vni ⟨hxn, Nat.le_refl _, Nat.le_refl _, Nat.zero_le _, rfl, rfl, rfl⟩ ?_) | refine And.intro ?_ ?_)) ?_
          refine vni ⟨rfl, rfl, (by simp only [List.length_append, List.length_take, List.length_drop, List.length_map, rows_len, List.length_cons, List.length_nil, vrep]; omega)⟩ ?_
          refine vsrc_all (by omega) (nbeq_yes (by simp only [rows_len]; omega)) ?_
          refine vni ⟨rfl, rfl, (by simp only [List.length_append, List.length_take, List.length_drop, List.length_map, rows_len, List.length_cons, List.length_nil, vrep]; omega), Nat.le_refl _, (rf_fit (by simp only [List.length_append, List.length_take, List.length_drop, List.length_map, rows_len, List.length_cons, List.length_nil, vrep]; omega)).1, (rf_fit (by simp only [List.length_append, List.length_take, List.length_drop, List.length_map, rows_len, List.length_cons, List.length_nil, vrep]; omega)).2⟩ ?_
          refine vcn (nbeq_no (by rw [rows_len]; exact hn0)) (vcn (nble_no (by simp only [rows_len]; omega)) ?_)
          refine vni (by repeat' (first | exact trivial | exact rfl | exact hsrc1 | refine vnf rfl (vni ⟨Nat.zero_le _, hxn, Nat.le_refl _, Nat.zero_le _, rfl, rfl, rfl⟩ ?_) | refine vnf rfl (vni ⟨hxn, Nat.le_refl _, Nat.le_refl _, Nat.zero_le _, rfl, rfl, rfl⟩ ?_) | refine And.intro ?_ ?_)) ?_
          refine vni (by repeat' (first | exact trivial | exact rfl | exact hsrc1 | refine vnf rfl (vni ⟨Nat.zero_le _, hxn, Nat.le_refl _, Nat.zero_le _, rfl, rfl, rfl⟩ ?_) | refine vnf rfl (vni ⟨hxn, Nat.le_refl _, Nat.le_refl _, Nat.zero_le _, rfl, rfl, rfl⟩ ?_) | refine And.intro ?_ ?_)) ?_
          refine VCode.arr (tm0 := rfT2 sep fin opt (insK FE.n X xs).length) (σ0 := rfS R q (insK FE.n X xs) ++ [.box (rfQ R q1)]) ?_ (hC () trivial)
          exact .pick 2 [0, 1, 7, 3] ⟨rfl, rfl, rfl, rfl, rfl, rfl, rf_out (by simp only [hzl, List.length_append, List.length_take, List.length_drop, List.length_map, rows_len, List.length_cons, List.length_nil, vrep]; omega), rfl, trivial⟩ rfl rfl rfl rfl rfl (by decide) ⟨rfl, rfl, rfl, rfl, rf_pick (by refine rf_row ?_; rw [hXd]; exact app_fst _ (rows xs) _ _ hat0), bdO_d _ 7 _, rfl, rfl, trivial⟩
        ·by_cases hatn : plc (xs.map FE.n) (R.tok q).text = xs.length
         ·refine vsrc_all rfl (nbeq_yes (by simp only [rows_len]; omega)) ?_
          refine vni ⟨rfl, rfl, (by simp only [List.length_append, List.length_take, List.length_drop, List.length_map, rows_len, List.length_cons, List.length_nil, vrep]; omega), Nat.le_refl _, (rf_fit (by simp only [List.length_append, List.length_take, List.length_drop, List.length_map, rows_len, List.length_cons, List.length_nil, vrep]; omega)).1, (rf_fit (by simp only [List.length_append, List.length_take, List.length_drop, List.length_map, rows_len, List.length_cons, List.length_nil, vrep]; omega)).2⟩ ?_
          refine vcn (nbeq_no (by simp only [rows_len]; omega)) (vcn (nble_no (by simp only [rows_len]; omega)) ?_)
          refine vni (by repeat' (first | exact trivial | exact rfl | exact hsrc1 | refine vnf rfl (vni ⟨Nat.zero_le _, hxn, Nat.le_refl _, Nat.zero_le _, rfl, rfl, rfl⟩ ?_) | refine vnf rfl (vni ⟨hxn, Nat.le_refl _, Nat.le_refl _, Nat.zero_le _, rfl, rfl, rfl⟩ ?_) | refine And.intro ?_ ?_)) ?_
          refine vni rfl ?_
          refine vni ⟨rfl, rfl, (by simp only [List.length_append, List.length_take, List.length_drop, List.length_map, rows_len, List.length_cons, List.length_nil, vrep]; omega), Nat.le_refl _, (rf_fit (by simp only [List.length_append, List.length_take, List.length_drop, List.length_map, rows_len, List.length_cons, List.length_nil, vrep]; omega)).1, (rf_fit (by simp only [List.length_append, List.length_take, List.length_drop, List.length_map, rows_len, List.length_cons, List.length_nil, vrep]; omega)).2⟩ ?_
          refine vcn rfl (vcn (lit_full _) ?_)
          refine vni (by repeat' (first | exact trivial | exact rfl | exact hsrc1 | refine vnf rfl (vni ⟨Nat.zero_le _, hxn, Nat.le_refl _, Nat.zero_le _, rfl, rfl, rfl⟩ ?_) | refine vnf rfl (vni ⟨hxn, Nat.le_refl _, Nat.le_refl _, Nat.zero_le _, rfl, rfl, rfl⟩ ?_) | refine And.intro ?_ ?_)) ?_
          refine vni ⟨rfl, rfl, (by simp only [List.length_append, List.length_take, List.length_drop, List.length_map, rows_len, List.length_cons, List.length_nil, vrep]; omega)⟩ ?_
          refine vsrc_part (.inl (by omega)) ?_
          refine vni ⟨rfl, rfl, (by simp only [List.length_append, List.length_take, List.length_drop, List.length_map, rows_len, List.length_cons, List.length_nil, vrep]; omega), Nat.le_refl _, (rf_fit (by simp only [List.length_append, List.length_take, List.length_drop, List.length_map, rows_len, List.length_cons, List.length_nil, vrep]; omega)).1, (rf_fit (by simp only [List.length_append, List.length_take, List.length_drop, List.length_map, rows_len, List.length_cons, List.length_nil, vrep]; omega)).2⟩ ?_
          refine vcp (nbeq_yes (by simp only [List.length_take, List.length_drop, rows_len]; omega)) ?_
          refine vni (by repeat' (first | exact trivial | exact rfl | exact hsrc1 | refine vnf rfl (vni ⟨Nat.zero_le _, hxn, Nat.le_refl _, Nat.zero_le _, rfl, rfl, rfl⟩ ?_) | refine vnf rfl (vni ⟨hxn, Nat.le_refl _, Nat.le_refl _, Nat.zero_le _, rfl, rfl, rfl⟩ ?_) | refine And.intro ?_ ?_)) ?_
          refine vni (by repeat' (first | exact trivial | exact rfl | exact hsrc1 | refine vnf rfl (vni ⟨Nat.zero_le _, hxn, Nat.le_refl _, Nat.zero_le _, rfl, rfl, rfl⟩ ?_) | refine vnf rfl (vni ⟨hxn, Nat.le_refl _, Nat.le_refl _, Nat.zero_le _, rfl, rfl, rfl⟩ ?_) | refine And.intro ?_ ?_)) ?_
          refine VCode.arr (tm0 := rfT2 sep fin opt (insK FE.n X xs).length) (σ0 := rfS R q (insK FE.n X xs) ++ [.box (rfQ R q1)]) ?_ (hC () trivial)
          exact .pick 2 [0, 1, 7, 3] ⟨rfl, rfl, rfl, rfl, rfl, rfl, rf_out (by simp only [hzl, List.length_append, List.length_take, List.length_drop, List.length_map, rows_len, List.length_cons, List.length_nil, vrep]; omega), rfl, trivial⟩ rfl rfl rfl rfl rfl (by decide) ⟨rfl, rfl, rfl, rfl, rf_pick (by refine rf_row ?_; rw [hXd]; exact app_lst _ (rows xs) _ _ (hatn.trans hln.symm)), bdO_d _ 7 _, rfl, rfl, trivial⟩
         ·refine vsrc_part (.inr (nbeq_no (by simp only [rows_len]; omega))) ?_
          refine vni ⟨rfl, rfl, (by simp only [List.length_append, List.length_take, List.length_drop, List.length_map, rows_len, List.length_cons, List.length_nil, vrep]; omega), Nat.le_refl _, (rf_fit (by simp only [List.length_append, List.length_take, List.length_drop, List.length_map, rows_len, List.length_cons, List.length_nil, vrep]; omega)).1, (rf_fit (by simp only [List.length_append, List.length_take, List.length_drop, List.length_map, rows_len, List.length_cons, List.length_nil, vrep]; omega)).2⟩ ?_
          refine vcn (nbeq_no (by rw [hl1]; exact hat0)) (vcn (nble_no (by simp only [hl1]; omega)) ?_)
          refine vni (by repeat' (first | exact trivial | exact rfl | exact hsrc1 | refine vnf rfl (vni ⟨Nat.zero_le _, hxn, Nat.le_refl _, Nat.zero_le _, rfl, rfl, rfl⟩ ?_) | refine vnf rfl (vni ⟨hxn, Nat.le_refl _, Nat.le_refl _, Nat.zero_le _, rfl, rfl, rfl⟩ ?_) | refine And.intro ?_ ?_)) ?_
          refine vni rfl ?_
          refine vni ⟨rfl, rfl, (by simp only [List.length_append, List.length_take, List.length_drop, List.length_map, rows_len, List.length_cons, List.length_nil, vrep]; omega), Nat.le_refl _, (rf_fit (by simp only [List.length_append, List.length_take, List.length_drop, List.length_map, rows_len, List.length_cons, List.length_nil, vrep]; omega)).1, (rf_fit (by simp only [List.length_append, List.length_take, List.length_drop, List.length_map, rows_len, List.length_cons, List.length_nil, vrep]; omega)).2⟩ ?_
          refine vcn rfl (vcn (lit_full _) ?_)
          refine vni (by repeat' (first | exact trivial | exact rfl | exact hsrc1 | refine vnf rfl (vni ⟨Nat.zero_le _, hxn, Nat.le_refl _, Nat.zero_le _, rfl, rfl, rfl⟩ ?_) | refine vnf rfl (vni ⟨hxn, Nat.le_refl _, Nat.le_refl _, Nat.zero_le _, rfl, rfl, rfl⟩ ?_) | refine And.intro ?_ ?_)) ?_
          refine vni ⟨rfl, rfl, (by simp only [List.length_append, List.length_take, List.length_drop, List.length_map, rows_len, List.length_cons, List.length_nil, vrep]; omega)⟩ ?_
          refine vsrc_part (.inl (by omega)) ?_
          refine vni ⟨rfl, rfl, (by simp only [List.length_append, List.length_take, List.length_drop, List.length_map, rows_len, List.length_cons, List.length_nil, vrep]; omega), Nat.le_refl _, (rf_fit (by simp only [List.length_append, List.length_take, List.length_drop, List.length_map, rows_len, List.length_cons, List.length_nil, vrep]; omega)).1, (rf_fit (by simp only [List.length_append, List.length_take, List.length_drop, List.length_map, rows_len, List.length_cons, List.length_nil, vrep]; omega)).2⟩ ?_
          refine vcn (nbeq_no (by simp only [List.length_take, List.length_drop, rows_len]; omega)) (vcn (nble_no (by simp only [List.length_take, List.length_drop, rows_len]; omega)) ?_)
          refine vni (by repeat' (first | exact trivial | exact rfl | exact hsrc1 | refine vnf rfl (vni ⟨Nat.zero_le _, hxn, Nat.le_refl _, Nat.zero_le _, rfl, rfl, rfl⟩ ?_) | refine vnf rfl (vni ⟨hxn, Nat.le_refl _, Nat.le_refl _, Nat.zero_le _, rfl, rfl, rfl⟩ ?_) | refine And.intro ?_ ?_)) ?_
          refine vni (by repeat' (first | exact trivial | exact rfl | exact hsrc1 | refine vnf rfl (vni ⟨Nat.zero_le _, hxn, Nat.le_refl _, Nat.zero_le _, rfl, rfl, rfl⟩ ?_) | refine vnf rfl (vni ⟨hxn, Nat.le_refl _, Nat.le_refl _, Nat.zero_le _, rfl, rfl, rfl⟩ ?_) | refine And.intro ?_ ?_)) ?_
          refine VCode.arr (tm0 := rfT2 sep fin opt (insK FE.n X xs).length) (σ0 := rfS R q (insK FE.n X xs) ++ [.box (rfQ R q1)]) ?_ (hC () trivial)
          exact .pick 2 [0, 1, 8, 3] ⟨rfl, rfl, rfl, rfl, rfl, rfl, rf_out (by simp only [hzl, List.length_append, List.length_take, List.length_drop, List.length_map, rows_len, List.length_cons, List.length_nil, vrep]; omega), rfl, trivial⟩ rfl rfl rfl rfl rfl (by decide) ⟨rfl, rfl, rfl, rfl, rf_pick (by refine rf_row ?_; rw [hXd]; exact app_mid _ (rows xs) _ _ xs.length hln hxn), bdO_d _ 7 _, rfl, rfl, trivial⟩
       ·intro _ _
        refine ris_spec R (RS.at q1) sep g2 ?_
        rw [RS.is_at]
        cases h7 : isTok (R.tok q1) sep with
        | true =>
         rw [hsx h7, if_neg (by decide), needF, if_pos h7, needF] at he
         dsimp only at he
         refine rnext_spec R (RS.at q1) (by show q1 < 4294967296; omega) ?_
         refine ⟨(q1 + 1, acc ++ [((R.tok q).text, t, o)], insK FE.n X xs), ⟨by show p <= q1 + 1; omega, w.step g2 h7, by show (insK FE.n X xs).length <= q1 + 1; rw [hzl]; omega, hX', hn', f, by show R.ts.length - (q1 + 1) <= f; omega, he⟩, by show R.ts.length - (q1 + 1) < R.ts.length - q; omega, ?_, rfl, rfl⟩
         exact .pick 2 [0, 1, 2] ⟨rfl, rfl, rfl, rfl, rfl, rfl, rf_out rfl, trivial⟩ rfl rfl rfl rfl rfl (by decide) ⟨rfl, rfl, rfl, rfl, rf_pick rfl, bdO_d _ 7 _, trivial⟩
        | false =>
         refine rexpect_spec R w (RS.at q1) fin g2 ?_
         cases h8 : isTok (R.tok q1) fin with
         | true =>
          rw [h8, if_pos rfl] at he
          rw [RS.expect_yes h8]
          refine fz_pair (i := 2) (es := 7) (els := (insK FE.n X xs).map fe) rfl (by rw [List.length_map]) (fun b => ?_)
          rw [he]
          exact ⟨_, .ps hX'.fls, rfl⟩
         | false =>
          rw [h8, if_neg (by decide), needF, h7, if_neg (by decide)] at he
          dsimp only at he
          rw [RS.expect_no h8]
          refine fz_pair (i := 2) (es := 7) (els := (insK FE.n X xs).map fe) rfl (by rw [List.length_map]) (fun b => ?_)
          rw [he]
          exact ⟨by decide, _, q1, g2, rfl⟩
      ·rw [e1] at he
       dsimp only at he
       refine vci (fun h9 => ?_) (fun h9 => absurd (nz_of h9) hne)
       repeat refine vni (by repeat' (first | exact trivial | exact rfl | refine vnf rfl ?_ | refine And.intro ?_ ?_)) ?_
       refine VUpd.drop 0 ?_ ?_ ?_ ?_
       iterate 3 exact rfl
       refine VUpd.now rfl ⟨rfl, rfl, ?_⟩
       rw [he]
       exact ⟨hne, _, q1, hq1, rfl⟩
  ·rw [if_pos hk1] at he
   rw [RS.word_no hk1, RS.wordT, RS.isKind_at, decide_eq_false hk1, if_neg (by decide)]
   refine names_spec xs xs.length rfl (by omega) 2 rfl (fun b => ?_)
   refine rplace_spec (xs.map FE.n) [] b xs.length (by simp; omega) ?_
   generalize decide ((xs.map FE.n)[plc (xs.map FE.n) []]? = some []) = ex
   refine vci (fun h9 => ?_) (fun h9 => ?_)
   ·refine rfail_spec R _ (R.tok q).off 5 ?_
    rw [RS.fail_err (Nat.succ_ne_zero _)]
    cases opt with
    | false =>
     refine VCode.ofVc ?_
     refine rexpect_spec R w _ [58] hq ?_
     rw [RS.expect_err (Nat.succ_ne_zero _)]
     refine ht.err _ (Nat.succ_ne_zero _) hq _ _ (fun k m n a f => ?_)
     repeat refine vni (by repeat' (first | exact trivial | exact rfl | refine vnf rfl ?_ | refine And.intro ?_ ?_)) ?_
     refine VUpd.drop 0 ?_ ?_ ?_ ?_
     iterate 3 exact rfl
     refine VUpd.now rfl ⟨rfl, rfl, ?_⟩
     rw [he]
     exact ⟨by decide, _, _, hq, rfl⟩
    | true =>
     refine ris_spec R _ [63] hq ?_
     rw [RS.is_err (Nat.succ_ne_zero _)]
     refine VCode.ofVc ?_
     refine rexpect_spec R w _ [58] hq ?_
     rw [RS.expect_err (Nat.succ_ne_zero _)]
     refine ht.err _ (Nat.succ_ne_zero _) hq _ _ (fun k m n a f => ?_)
     repeat refine vni (by repeat' (first | exact trivial | exact rfl | refine vnf rfl ?_ | refine And.intro ?_ ?_)) ?_
     refine VUpd.drop 0 ?_ ?_ ?_ ?_
     iterate 3 exact rfl
     refine VUpd.now rfl ⟨rfl, rfl, ?_⟩
     rw [he]
     exact ⟨by decide, _, _, hq, rfl⟩
   ·cases opt with
    | false =>
     refine VCode.ofVc ?_
     refine rexpect_spec R w _ [58] hq ?_
     rw [RS.expect_err (Nat.succ_ne_zero _)]
     refine ht.err _ (Nat.succ_ne_zero _) hq _ _ (fun k m n a f => ?_)
     repeat refine vni (by repeat' (first | exact trivial | exact rfl | refine vnf rfl ?_ | refine And.intro ?_ ?_)) ?_
     refine VUpd.drop 0 ?_ ?_ ?_ ?_
     iterate 3 exact rfl
     refine VUpd.now rfl ⟨rfl, rfl, ?_⟩
     rw [he]
     exact ⟨by decide, _, _, hq, rfl⟩
    | true =>
     refine ris_spec R _ [63] hq ?_
     rw [RS.is_err (Nat.succ_ne_zero _)]
     refine VCode.ofVc ?_
     refine rexpect_spec R w _ [58] hq ?_
     rw [RS.expect_err (Nat.succ_ne_zero _)]
     refine ht.err _ (Nat.succ_ne_zero _) hq _ _ (fun k m n a f => ?_)
     repeat refine vni (by repeat' (first | exact trivial | exact rfl | refine vnf rfl ?_ | refine And.intro ?_ ?_)) ?_
     refine VUpd.drop 0 ?_ ?_ ?_ ?_
     iterate 3 exact rfl
     refine VUpd.now rfl ⟨rfl, rfl, ?_⟩
     rw [he]
     exact ⟨by decide, _, _, hq, rfl⟩
end Go.Proofs.YtifncjhjnjldmaaGreatDoor
