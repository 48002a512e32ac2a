/- Contract of the reader's fields. -/
import Derived.Test.YthfehkcfhiilfaaGreatDoorKSc
namespace Go.Proofs.YthfehkcfhiilfaaGreatDoor set_option linter.unusedSimpArgs false set_option linter.unusedVariables false
open Go.AM Go.VM
def fieldsLoop (ty : Nat -> PR Ty) (R : Rd) (sep fin : List UInt8) (opt : Bool) : Nat -> List Fld -> Nat -> PR (List Fld)
 | 0, _, _ => .bad 0 3
 | f + 1, acc, q =>
  if (R.tok q).kind ≠ 1 then .bad (R.tok q).off 3
  else if (R.tok q).text ∈ acc.map (·.1) then .bad (R.tok q).off 5
  else match needF R [[58]] (if opt && isTok (R.tok (q + 1)) [63] then q + 1 + 1 else q + 1) with
   | .bad o e => .bad o e
   | .ok _ q2 => match ty q2 with
    | .bad o e => .bad o e
    | .ok t q1 => if isTok (R.tok q1) fin then .ok (acc ++ [((R.tok q).text, t, opt && isTok (R.tok (q + 1)) [63])]) (q1 + 1) else match needF R [sep] q1 with
     | .bad o e => .bad o e
     | .ok _ q3 => fieldsLoop ty R sep fin opt f (acc ++ [((R.tok q).text, t, opt && isTok (R.tok (q + 1)) [63])]) q3
def PR.map {α β : Type} (g : α -> β) : PR α -> PR β
 | .ok a p => .ok (g a) p
 | .bad o e => .bad o e
def fieldsF (ty : Nat -> PR Ty) (R : Rd) (sep fin : List UInt8) (opt : Bool) (p : Nat) : PR (List Fld) :=
 if isTok (R.tok p) fin then .ok [] (p + 1) else (fieldsLoop ty R sep fin opt R.ts.length [] p).map (isortK (·.1))
def fldS (R : Rd) (q : Nat) (names : List (List UInt8)) (opt : Bool) : List FE -> VS
 | [] => [rdO R q, .box [.bp 0 0], .box [boolV opt], .box [.d .nils], setM names, .box [.map 4]]
 | x :: r => [rdO R q, .box [.bp 0 0], .box [boolV opt], .box [.ms 6 7 0 (r.length + 1) (r.length + 1)], setM names, .box [.map 4], .row 7 (rows (x :: r))]
def zeroF : List V := [.d (.str []), .d (.int .i64 0), .d (.str []), .d (.str []), .d .nils, .d .nils, .d (.bool false)]
def listfz : Nat -> Bool := fun t => Nat.beq t 18
def fldfz : Nat -> Bool := fun t => Nat.beq t 16 || Nat.beq t 24
theorem fld_fit {q n c : Nat} (h : c <= q) (h' : q < 4294967296) (hn : n = 1) : (c + n) * 112 <= limit /\ c + n <= limit := by
 unfold limit
 omega
theorem fld_lt (r : List FE) : r.length + 1 < r.length + 1 + 1 := Nat.lt_succ_self _
theorem fld_zero (x0 : FE) (r : List FE) : nth (List.take (r.length + 1) (List.drop 0 (rows (x0 :: r))) ++ [zeroF]) (0 + (r.length + 1)) = some zeroF := by
 rw [nth_eq, List.getElem?_append_right (by simp [rows])]
 simp [rows]
theorem fld_grow (x0 : FE) (r : List FE) (x : FE) : (List.take (r.length + 1) (List.drop 0 (rows (x0 :: r))) ++ [zeroF]).set (0 + (r.length + 1)) ((fe x).map V.d) = rows (x0 :: (r ++ [x])) := by
 rw [List.drop_zero, List.take_of_length_le (by simp [rows]), List.set_append_right _ _ (by simp [rows])]
 simp [rows]
theorem fld_grow' {π : Nat -> Nat} (x0 : FE) (r : List FE) (x : FE) : some (VObj.row 7 ((List.take (r.length + 1) (List.drop 0 (rows (x0 :: r))) ++ [zeroF]).set (0 + (r.length + 1)) ((fe x).map V.d))) = some (renO π (.row 7 (rows (x0 :: (r ++ [x]))))) := by
 rw [fld_grow]
 exact congrArg some (renO_d π 7 ((x0 :: (r ++ [x])).map fe)).symm
theorem fld_out (i : Nat) (r : List FE) (x : FE) : some (VObj.box [.ms i 7 0 (r.length + 1 + 1) (r.length + 1 + 1)]) = some (VObj.box [.ms i 7 0 ((r ++ [x]).length + 1) ((r ++ [x]).length + 1)]) := by simp
theorem isort_len (xs : List FE) : xs.length = (isortK FE.n xs).length := (isortK_perm xs).length_eq.symm
theorem fld_nodup {xs : List FE} {l : List Fld} {x : FE} (h : (xs.map FE.n).Nodup) (hX : xs.map FE.n = l.map (·.1)) (hin : x.n ∉ l.map (·.1)) : ((xs ++ [x]).map FE.n).Nodup := by
 rw [List.map_append, List.nodup_append]
 refine ⟨h, by simp, ?_⟩
 intro a ha b hb e
 simp only [List.map_cons, List.map_nil, List.mem_singleton] at hb
 subst e
 subst hb
 exact hin (hX ▸ ha)
theorem fld_set {π : Nat -> Nat} (l : List Fld) (n : List UInt8) (t : Ty) (o : Bool) : some (setM (l.map (·.1) ++ [n])) = some (renO π (setM ((l ++ [(n, t, o)]).map (·.1)))) := by
 rw [renO_closed π _ (bd_setM _), List.map_append]
 rfl
def fldK (R : Rd) (x : PR (List Fld)) (r : VCR) (σ' : VS) : Prop := match x with
 | .ok l q => σ' = [rdO R q] /\ ∃ d, FlsD l d /\ r = .ret (.d d)
 | .bad off e => ∃ q, σ' = [rdO R q] /\ r = .pan (wrongV off e)
theorem fld_end {R : Rd} {q : Nat} {tl : VS} {l : List Fld} {xs : List FE} {x : PR (List Fld)} (i n : Nat) (hn : n = xs.length) (hr : nth tl i = some (.row 7 (rows xs))) (hL : FlsX l xs) (hx : x = .ok l q) :
  VUpd 1 (.ret (.ms (i + 1) 7 0 n n)) (rdO R q :: tl) (fldK R x) := by
 subst hx
 have hn' : n = (xs.map fe).length := by simpa using hn
 refine VUpd.freeze (i + 1) (es := 7) (l := xs.map fe) hr (drows_d _) (fun _ => ⟨rfl, by simp [hn]⟩) (fun b => ?_)
 have e : fzCR (i + 1) b (xs.map fe) (.ret (.ms (i + 1) 7 0 n n)) = .ret (.d (.ps b (0 * 7) 7 n (xs.map fe))) := by
  show VCR.ret (fzV (i + 1) b (xs.map fe) (.ms (i + 1) 7 0 n n)) = _
  rw [fzV, nbeq_self]
  show VCR.ret (.d (.ps b (0 * 7) 7 n (((xs.map fe).drop 0).take n))) = _
  rw [take_self _ _ hn']
 rw [e]
 refine VUpd.drop 1 rfl (by show (bdO 1 (rdO R q) && bdS 1 (tl.set i .gone) 0) = true; rw [bdS]; rfl) rfl (VUpd.now rfl ?_)
 exact ⟨rfl, _, .ps hL.fls, rfl⟩
set_option maxHeartbeats 8000000 in
theorem fields_spec0 (R : Rd) (w : R.Wf) (ty : Nat -> PR Ty) (sep fin : List UInt8) (opt : Bool) (p : Nat) (hp : p < R.ts.length) (ht : TypOk ty R p) :
  VCall C intr0 F.reader_fields [.bp 0 0, strV sep, strV fin, boolV opt] [rdO R p] (fldK R (fieldsF ty R sep fin opt p)) := by
 have hlen := w.len
 refine VCall.b1 nofz (fun _ => rfl) ?_
 refine VCall.b0 listfz (fun _ => rfl) ?_
 refine skip_spec R p (R.tok p) fin (Rd.tok_some hp) (by omega) 0 rfl (fun h => ?_) (fun h => ?_)
 ·refine sorted_nil ?_
  refine VUpd.drop 1 ?_ ?_ ?_ ?_
  iterate 3 exact rfl
  refine VUpd.now rfl ?_
  rw [fieldsF, if_pos h]
  exact ⟨rfl, .nils, .nil, rfl⟩
 ·refine VCode.less (tm0 := [(0, .bp 0 0), (1, strV sep), (2, strV fin), (3, .fn F.reader_fields_1 [] [.bp 1 0, .bp 5 0, .bp 2 0, .bp 3 0])]) ⟨rfl, rfl, rfl, rfl, trivial⟩ ?_
  refine VCode.iter (fun _ : Nat × List Fld × List FE => [(0, .bp 0 0), (1, strV sep), (2, strV fin), (3, .fn F.reader_fields_1 [] [.bp 1 0, .bp 5 0, .bp 2 0, .bp 3 0])]) (fun x => fldS R x.1 (x.2.1.map (·.1)) opt x.2.2) (fun x => R.ts.length - x.1)
   (fun x => p <= x.1 /\ x.1 < R.ts.length /\ x.2.2.length <= x.1 /\ FlsX x.2.1 x.2.2 /\ (x.2.2.map FE.n).Nodup /\ ∃ f, R.ts.length - x.1 <= f /\ fieldsLoop ty R sep fin opt R.ts.length [] p = fieldsLoop ty R sep fin opt f x.2.1 x.1) ?_ (p, [], []) ⟨Nat.le_refl _, hp, Nat.zero_le _, .nil, List.nodup_nil, _, by show R.ts.length - p <= R.ts.length; omega, rfl⟩
  rintro ⟨q, l, xs⟩ ⟨hq0, hq, hal, hX, hnd, f, hf, he⟩
  have hq0 : p <= q := hq0
  have hq : q < R.ts.length := hq
  have hal : xs.length <= q := hal
  have hX : FlsX l xs := hX
  have hnd : (xs.map FE.n).Nodup := hnd
  have hN := hX.names
  have hf : R.ts.length - q <= f := hf
  have he : fieldsLoop ty R sep fin opt R.ts.length [] p = fieldsLoop ty R sep fin opt f l q := he
  obtain ⟨f, rfl⟩ : ∃ k, f = k + 1 := ⟨f - 1, by omega⟩
  have hF : fieldsF ty R sep fin opt p = (fieldsLoop ty R sep fin opt (f + 1) l q).map (isortK (·.1)) := by rw [fieldsF, if_neg (by rw [h]; decide), he]
  rw [fieldsLoop] at hF
  cases xs with
  | nil =>
   refine VCall.b0 fldfz (fun _ => rfl) ?_
   refine fresh_spec R w q hq (l.map (·.1)) 0 4 (by decide) ?_ ?_ (fun hk hin => ?_) (fun hk hin => ?_) (fun hk => ?_)
   ·exact rfl
   ·exact rfl
   ·have hq1 : q + 1 < R.ts.length := w.go q _ (Rd.tok_some hq) (by omega)
    cases opt
    ·have hq0' : q + 1 < R.ts.length := hq1
     intro b4
     refine need_spec R w [[58]] (by decide) (q + 1) hq0' _ _ 0 ?_ ?_
     ·exact rfl
     cases hn : needF R [[58]] (q + 1) with
     | bad off e =>
      intro q2
      refine VUpd.drop 1 ?_ ?_ ?_ ?_
      iterate 3 exact rfl
      refine VUpd.now rfl ?_
      rw [hF]
      simp only [hk, ne_eq, not_true, if_false, hin, Bool.false_and, Bool.false_eq_true, hn]
      exact ⟨q2, rfl, rfl⟩
     | ok _ q2 =>
      have hq2 := needF_lt w _ _ _ hq0' hn
      have hm2 := needF_mono _ _ _ hn
      have hm2 : p <= q2 := by rw [hm2]; omega
      have hm3 : q < q2 := by have := needF_mono _ _ _ hn; simp only [List.length_cons, List.length_nil] at this; omega
      refine ht.call q2 hm2 hq2 0 _ _ ?_ (fun t d q1 e1 hd => ?_) (fun off e q1 e1 => ?_)
      ·exact rfl
      ·obtain ⟨k, m, n, a, fl, rfl⟩ := hd.five
       obtain ⟨g1, g2⟩ := ht.lt q2 t q1 hm2 hq2 e1
       have hX' : FlsX (l ++ [((R.tok q).text, t, false)]) ([] ++ [(⟨(R.tok q).text, k, m, n, a, fl, false⟩ : FE)]) := hX.snoc (x := (⟨(R.tok q).text, k, m, n, a, fl, false⟩ : FE)) hd
       have hnd' : ((([] ++ [(⟨(R.tok q).text, k, m, n, a, fl, false⟩ : FE)] : List FE)).map FE.n).Nodup := fld_nodup hnd hN hin
       intro b5
       repeat first
        | refine vnf rfl ?_
        | refine vni (by repeat' (first | exact trivial | exact rfl | exact Nat.le_of_ble_eq_true rfl | refine vnf rfl ?_ | refine vni (Nat.le_of_ble_eq_true rfl) ?_ | refine exf zeroF rfl ?_ | refine And.intro ?_ ?_)) ?_
       refine exf zeroF rfl ?_
       refine skip_spec R q1 (R.tok q1) fin (Rd.tok_some g2) (by omega) 0 ?_ (fun h3 => ?_) (fun h3 => ?_)
       ·exact rfl
       ·refine sorted_spec [(⟨(R.tok q).text, k, m, n, a, fl, false⟩ : FE)] hnd' (by simp only [List.length_cons, List.length_append, List.length_nil] <;> omega) 1 (by simp) 7 ?_ ?_
        ·exact rfl
        ·refine fld_end (l := isortK (·.1) (l ++ [((R.tok q).text, t, false)])) (xs := isortK FE.n [(⟨(R.tok q).text, k, m, n, a, fl, false⟩ : FE)]) 6 _ ((by simp : 1 = _).trans (isort_len [(⟨(R.tok q).text, k, m, n, a, fl, false⟩ : FE)])) ?_ hX'.sort ?_
         ·exact rfl
         ·rw [hF]
          simp only [hk, ne_eq, not_true, if_false, hin, Bool.false_and, Bool.false_eq_true, hn, e1, h3, if_true, PR.map]
       ·intro b6
        refine need_spec R w [sep] (by show 1 < 4294967296; decide) q1 g2 _ _ 0 ?_ ?_
        ·exact rfl
        ·cases hn2 : needF R [sep] q1 with
         | bad off e =>
          intro q3
          refine VUpd.drop 1 ?_ ?_ ?_ ?_
          iterate 3 exact rfl
          refine VUpd.now rfl ?_
          rw [hF]
          simp only [hk, ne_eq, not_true, if_false, hin, Bool.false_and, Bool.false_eq_true, hn, e1, h3, hn2]
          exact ⟨q3, rfl, rfl⟩
         | ok _ q3 =>
          have hq3 := needF_lt w _ _ _ g2 hn2
          have hm4 : q1 < q3 := by have := needF_mono _ _ _ hn2; simp only [List.length_cons, List.length_nil] at this; omega
          refine ⟨(q3, l ++ [((R.tok q).text, t, false)], [(⟨(R.tok q).text, k, m, n, a, fl, false⟩ : FE)]), ⟨by show p <= q3; omega, hq3, by show 1 <= q3; omega, hX', hnd', f, by show R.ts.length - q3 <= f; omega, ?_⟩, ?_, ?_, rfl, rfl⟩
          ·show fieldsLoop ty R sep fin _ R.ts.length [] p = fieldsLoop ty R sep fin _ f (l ++ [((R.tok q).text, t, false)]) q3
           rw [he, fieldsLoop]
           simp only [hk, ne_eq, not_true, if_false, hin, Bool.false_and, Bool.false_eq_true, hn, e1, h3, hn2] <;> rfl
          ·show R.ts.length - q3 < R.ts.length - q
           omega
          ·exact .pick 6 [0, 1, 2, 3, 4, 5, 7] ⟨rfl, rfl, rfl, rfl, trivial⟩ rfl rfl rfl rfl rfl (by decide) ⟨rfl, rfl, rfl, rfl, rfl, rfl, rfl, rfl, fld_set l _ t _, bdO_up _ _ (bd_setM _), rfl, rfl, rfl, rfl, trivial⟩
      ·refine VUpd.drop 1 ?_ ?_ ?_ ?_
       iterate 3 exact rfl
       refine VUpd.now rfl ?_
       rw [hF]
       simp only [hk, ne_eq, not_true, if_false, hin, Bool.false_and, Bool.false_eq_true, hn, e1]
       exact ⟨q1, rfl, rfl⟩
    ·refine skip_spec R (q + 1) (R.tok (q + 1)) [63] (Rd.tok_some hq1) (by omega) 0 ?_ (fun h2 => ?_) (fun h2 => ?_)
     ·exact rfl
     ·have hq0' : q + 1 + 1 < R.ts.length := w.step hq1 h2
      intro b4
      refine need_spec R w [[58]] (by decide) (q + 1 + 1) hq0' _ _ 0 ?_ ?_
      ·exact rfl
      cases hn : needF R [[58]] (q + 1 + 1) with
      | bad off e =>
       intro q2
       refine VUpd.drop 1 ?_ ?_ ?_ ?_
       iterate 3 exact rfl
       refine VUpd.now rfl ?_
       rw [hF]
       simp only [hk, ne_eq, not_true, if_false, hin, h2, Bool.and_self, Bool.true_and, if_true, hn]
       exact ⟨q2, rfl, rfl⟩
      | ok _ q2 =>
       have hq2 := needF_lt w _ _ _ hq0' hn
       have hm2 := needF_mono _ _ _ hn
       have hm2 : p <= q2 := by rw [hm2]; omega
       have hm3 : q < q2 := by have := needF_mono _ _ _ hn; simp only [List.length_cons, List.length_nil] at this; omega
       refine ht.call q2 hm2 hq2 0 _ _ ?_ (fun t d q1 e1 hd => ?_) (fun off e q1 e1 => ?_)
       ·exact rfl
       ·obtain ⟨k, m, n, a, fl, rfl⟩ := hd.five
        obtain ⟨g1, g2⟩ := ht.lt q2 t q1 hm2 hq2 e1
        have hX' : FlsX (l ++ [((R.tok q).text, t, true)]) ([] ++ [(⟨(R.tok q).text, k, m, n, a, fl, true⟩ : FE)]) := hX.snoc (x := (⟨(R.tok q).text, k, m, n, a, fl, true⟩ : FE)) hd
        have hnd' : ((([] ++ [(⟨(R.tok q).text, k, m, n, a, fl, true⟩ : FE)] : List FE)).map FE.n).Nodup := fld_nodup hnd hN hin
        intro b5
        repeat first
         | refine vnf rfl ?_
         | refine vni (by repeat' (first | exact trivial | exact rfl | exact Nat.le_of_ble_eq_true rfl | refine vnf rfl ?_ | refine vni (Nat.le_of_ble_eq_true rfl) ?_ | refine exf zeroF rfl ?_ | refine And.intro ?_ ?_)) ?_
        refine exf zeroF rfl ?_
        refine skip_spec R q1 (R.tok q1) fin (Rd.tok_some g2) (by omega) 0 ?_ (fun h3 => ?_) (fun h3 => ?_)
        ·exact rfl
        ·refine sorted_spec [(⟨(R.tok q).text, k, m, n, a, fl, true⟩ : FE)] hnd' (by simp only [List.length_cons, List.length_append, List.length_nil] <;> omega) 1 (by simp) 7 ?_ ?_
         ·exact rfl
         ·refine fld_end (l := isortK (·.1) (l ++ [((R.tok q).text, t, true)])) (xs := isortK FE.n [(⟨(R.tok q).text, k, m, n, a, fl, true⟩ : FE)]) 6 _ ((by simp : 1 = _).trans (isort_len [(⟨(R.tok q).text, k, m, n, a, fl, true⟩ : FE)])) ?_ hX'.sort ?_
          ·exact rfl
          ·rw [hF]
           simp only [hk, ne_eq, not_true, if_false, hin, h2, Bool.and_self, Bool.true_and, if_true, hn, e1, h3, if_true, PR.map]
        ·intro b6
         refine need_spec R w [sep] (by show 1 < 4294967296; decide) q1 g2 _ _ 0 ?_ ?_
         ·exact rfl
         ·cases hn2 : needF R [sep] q1 with
          | bad off e =>
           intro q3
           refine VUpd.drop 1 ?_ ?_ ?_ ?_
           iterate 3 exact rfl
           refine VUpd.now rfl ?_
           rw [hF]
           simp only [hk, ne_eq, not_true, if_false, hin, h2, Bool.and_self, Bool.true_and, if_true, hn, e1, h3, hn2]
           exact ⟨q3, rfl, rfl⟩
          | ok _ q3 =>
           have hq3 := needF_lt w _ _ _ g2 hn2
           have hm4 : q1 < q3 := by have := needF_mono _ _ _ hn2; simp only [List.length_cons, List.length_nil] at this; omega
           refine ⟨(q3, l ++ [((R.tok q).text, t, true)], [(⟨(R.tok q).text, k, m, n, a, fl, true⟩ : FE)]), ⟨by show p <= q3; omega, hq3, by show 1 <= q3; omega, hX', hnd', f, by show R.ts.length - q3 <= f; omega, ?_⟩, ?_, ?_, rfl, rfl⟩
           ·show fieldsLoop ty R sep fin _ R.ts.length [] p = fieldsLoop ty R sep fin _ f (l ++ [((R.tok q).text, t, true)]) q3
            rw [he, fieldsLoop]
            simp only [hk, ne_eq, not_true, if_false, hin, h2, Bool.and_self, Bool.true_and, if_true, hn, e1, h3, hn2] <;> rfl
           ·show R.ts.length - q3 < R.ts.length - q
            omega
           ·exact .pick 6 [0, 1, 2, 3, 4, 5, 7] ⟨rfl, rfl, rfl, rfl, trivial⟩ rfl rfl rfl rfl rfl (by decide) ⟨rfl, rfl, rfl, rfl, rfl, rfl, rfl, rfl, fld_set l _ t _, bdO_up _ _ (bd_setM _), rfl, rfl, rfl, rfl, trivial⟩
       ·refine VUpd.drop 1 ?_ ?_ ?_ ?_
        iterate 3 exact rfl
        refine VUpd.now rfl ?_
        rw [hF]
        simp only [hk, ne_eq, not_true, if_false, hin, h2, Bool.and_self, Bool.true_and, if_true, hn, e1]
        exact ⟨q1, rfl, rfl⟩
     ·have hq0' : q + 1 < R.ts.length := hq1
      intro b4
      refine need_spec R w [[58]] (by decide) (q + 1) hq0' _ _ 0 ?_ ?_
      ·exact rfl
      cases hn : needF R [[58]] (q + 1) with
      | bad off e =>
       intro q2
       refine VUpd.drop 1 ?_ ?_ ?_ ?_
       iterate 3 exact rfl
       refine VUpd.now rfl ?_
       rw [hF]
       simp only [hk, ne_eq, not_true, if_false, hin, h2, Bool.true_and, Bool.and_false, Bool.false_eq_true, hn]
       exact ⟨q2, rfl, rfl⟩
      | ok _ q2 =>
       have hq2 := needF_lt w _ _ _ hq0' hn
       have hm2 := needF_mono _ _ _ hn
       have hm2 : p <= q2 := by rw [hm2]; omega
       have hm3 : q < q2 := by have := needF_mono _ _ _ hn; simp only [List.length_cons, List.length_nil] at this; omega
       refine ht.call q2 hm2 hq2 0 _ _ ?_ (fun t d q1 e1 hd => ?_) (fun off e q1 e1 => ?_)
       ·exact rfl
       ·obtain ⟨k, m, n, a, fl, rfl⟩ := hd.five
        obtain ⟨g1, g2⟩ := ht.lt q2 t q1 hm2 hq2 e1
        have hX' : FlsX (l ++ [((R.tok q).text, t, false)]) ([] ++ [(⟨(R.tok q).text, k, m, n, a, fl, false⟩ : FE)]) := hX.snoc (x := (⟨(R.tok q).text, k, m, n, a, fl, false⟩ : FE)) hd
        have hnd' : ((([] ++ [(⟨(R.tok q).text, k, m, n, a, fl, false⟩ : FE)] : List FE)).map FE.n).Nodup := fld_nodup hnd hN hin
        intro b5
        repeat first
         | refine vnf rfl ?_
         | refine vni (by repeat' (first | exact trivial | exact rfl | exact Nat.le_of_ble_eq_true rfl | refine vnf rfl ?_ | refine vni (Nat.le_of_ble_eq_true rfl) ?_ | refine exf zeroF rfl ?_ | refine And.intro ?_ ?_)) ?_
        refine exf zeroF rfl ?_
        refine skip_spec R q1 (R.tok q1) fin (Rd.tok_some g2) (by omega) 0 ?_ (fun h3 => ?_) (fun h3 => ?_)
        ·exact rfl
        ·refine sorted_spec [(⟨(R.tok q).text, k, m, n, a, fl, false⟩ : FE)] hnd' (by simp only [List.length_cons, List.length_append, List.length_nil] <;> omega) 1 (by simp) 7 ?_ ?_
         ·exact rfl
         ·refine fld_end (l := isortK (·.1) (l ++ [((R.tok q).text, t, false)])) (xs := isortK FE.n [(⟨(R.tok q).text, k, m, n, a, fl, false⟩ : FE)]) 6 _ ((by simp : 1 = _).trans (isort_len [(⟨(R.tok q).text, k, m, n, a, fl, false⟩ : FE)])) ?_ hX'.sort ?_
          ·exact rfl
          ·rw [hF]
           simp only [hk, ne_eq, not_true, if_false, hin, h2, Bool.true_and, Bool.and_false, Bool.false_eq_true, hn, e1, h3, if_true, PR.map]
        ·intro b6
         refine need_spec R w [sep] (by show 1 < 4294967296; decide) q1 g2 _ _ 0 ?_ ?_
         ·exact rfl
         ·cases hn2 : needF R [sep] q1 with
          | bad off e =>
           intro q3
           refine VUpd.drop 1 ?_ ?_ ?_ ?_
           iterate 3 exact rfl
           refine VUpd.now rfl ?_
           rw [hF]
           simp only [hk, ne_eq, not_true, if_false, hin, h2, Bool.true_and, Bool.and_false, Bool.false_eq_true, hn, e1, h3, hn2]
           exact ⟨q3, rfl, rfl⟩
          | ok _ q3 =>
           have hq3 := needF_lt w _ _ _ g2 hn2
           have hm4 : q1 < q3 := by have := needF_mono _ _ _ hn2; simp only [List.length_cons, List.length_nil] at this; omega
           refine ⟨(q3, l ++ [((R.tok q).text, t, false)], [(⟨(R.tok q).text, k, m, n, a, fl, false⟩ : FE)]), ⟨by show p <= q3; omega, hq3, by show 1 <= q3; omega, hX', hnd', f, by show R.ts.length - q3 <= f; omega, ?_⟩, ?_, ?_, rfl, rfl⟩
           ·show fieldsLoop ty R sep fin _ R.ts.length [] p = fieldsLoop ty R sep fin _ f (l ++ [((R.tok q).text, t, false)]) q3
            rw [he, fieldsLoop]
            simp only [hk, ne_eq, not_true, if_false, hin, h2, Bool.true_and, Bool.and_false, Bool.false_eq_true, hn, e1, h3, hn2] <;> rfl
           ·show R.ts.length - q3 < R.ts.length - q
            omega
           ·exact .pick 6 [0, 1, 2, 3, 4, 5, 7] ⟨rfl, rfl, rfl, rfl, trivial⟩ rfl rfl rfl rfl rfl (by decide) ⟨rfl, rfl, rfl, rfl, rfl, rfl, rfl, rfl, fld_set l _ t _, bdO_up _ _ (bd_setM _), rfl, rfl, rfl, rfl, trivial⟩
       ·refine VUpd.drop 1 ?_ ?_ ?_ ?_
        iterate 3 exact rfl
        refine VUpd.now rfl ?_
        rw [hF]
        simp only [hk, ne_eq, not_true, if_false, hin, h2, Bool.true_and, Bool.and_false, Bool.false_eq_true, hn, e1]
        exact ⟨q1, rfl, rfl⟩
   ·refine VUpd.drop 1 ?_ ?_ ?_ ?_
    iterate 3 exact rfl
    refine VUpd.now rfl ?_
    rw [hF]
    simp only [hk, ne_eq, not_true, if_false, hin, if_true]
    exact ⟨q + 1, rfl, rfl⟩
   ·refine VUpd.drop 1 ?_ ?_ ?_ ?_
    iterate 3 exact rfl
    refine VUpd.now rfl ?_
    rw [hF]
    simp only [hk, ne_eq, not_false_iff, if_true]
    exact ⟨stepP (R.tok q) q, rfl, rfl⟩
  | cons x0 r =>
   refine VCall.b0 fldfz (fun _ => rfl) ?_
   refine fresh_spec R w q hq (l.map (·.1)) 0 4 (by decide) ?_ ?_ (fun hk hin => ?_) (fun hk hin => ?_) (fun hk => ?_)
   ·exact rfl
   ·exact rfl
   ·have hq1 : q + 1 < R.ts.length := w.go q _ (Rd.tok_some hq) (by omega)
    cases opt
    ·have hq0' : q + 1 < R.ts.length := hq1
     intro b4
     refine need_spec R w [[58]] (by decide) (q + 1) hq0' _ _ 0 ?_ ?_
     ·exact rfl
     cases hn : needF R [[58]] (q + 1) with
     | bad off e =>
      intro q2
      refine VUpd.drop 1 ?_ ?_ ?_ ?_
      iterate 3 exact rfl
      refine VUpd.now rfl ?_
      rw [hF]
      simp only [hk, ne_eq, not_true, if_false, hin, Bool.false_and, Bool.false_eq_true, hn]
      exact ⟨q2, rfl, rfl⟩
     | ok _ q2 =>
      have hq2 := needF_lt w _ _ _ hq0' hn
      have hm2 := needF_mono _ _ _ hn
      have hm2 : p <= q2 := by rw [hm2]; omega
      have hm3 : q < q2 := by have := needF_mono _ _ _ hn; simp only [List.length_cons, List.length_nil] at this; omega
      refine ht.call q2 hm2 hq2 0 _ _ ?_ (fun t d q1 e1 hd => ?_) (fun off e q1 e1 => ?_)
      ·exact rfl
      ·obtain ⟨k, m, n, a, fl, rfl⟩ := hd.five
       obtain ⟨g1, g2⟩ := ht.lt q2 t q1 hm2 hq2 e1
       have hX' : FlsX (l ++ [((R.tok q).text, t, false)]) ((x0 :: r) ++ [(⟨(R.tok q).text, k, m, n, a, fl, false⟩ : FE)]) := hX.snoc (x := (⟨(R.tok q).text, k, m, n, a, fl, false⟩ : FE)) hd
       have hnd' : (((x0 :: r ++ [(⟨(R.tok q).text, k, m, n, a, fl, false⟩ : FE)] : List FE)).map FE.n).Nodup := fld_nodup hnd hN hin
       have hr1 : r.length + 1 <= q := hal
       intro b5
       refine vni ?_ ?_
       ·repeat' (first | exact trivial | exact rfl | exact Nat.le_refl _ | exact (fld_fit hr1 (by omega) rfl).1 | exact (fld_fit hr1 (by omega) rfl).2 | (simp only [rows, List.length_map, List.length_cons]; omega) | refine vnf rfl ?_ | refine And.intro ?_ ?_)
       refine vni rfl (vni ⟨rfl, rfl, by simp [rows], Nat.le_refl _, fld_fit hr1 (by omega) rfl⟩ ?_)
       refine vcn rfl (vcn (lit_full (r.length + 1)) ?_)
       refine vni ?_ ?_
       ·repeat' (first | exact trivial | exact rfl | exact Nat.le_of_ble_eq_true rfl | refine vnf rfl ?_ | refine exf zeroF (fld_zero x0 r) ?_ | refine vni (fld_lt r) ?_ | refine And.intro ?_ ?_)
       refine vnf rfl ?_
       refine vni (fld_lt r) ?_
       refine vni ?_ ?_
       ·repeat' (first | exact trivial | exact rfl | exact Nat.le_of_ble_eq_true rfl | refine vnf rfl ?_ | refine exf zeroF (fld_zero x0 r) ?_ | refine vni (fld_lt r) ?_ | refine And.intro ?_ ?_)
       refine exf zeroF (fld_zero x0 r) ?_
       refine skip_spec R q1 (R.tok q1) fin (Rd.tok_some g2) (by omega) 0 ?_ (fun h3 => ?_) (fun h3 => ?_)
       ·exact rfl
       ·refine sorted_spec (x0 :: (r ++ [(⟨(R.tok q).text, k, m, n, a, fl, false⟩ : FE)])) hnd' (by simp only [List.length_cons, List.length_append, List.length_nil] <;> omega) (r.length + 1 + 1) (by simp) 8 ?_ ?_
        ·exact congrArg (fun x => some (VObj.row 7 x)) (fld_grow x0 r (⟨(R.tok q).text, k, m, n, a, fl, false⟩ : FE))
        ·refine fld_end (l := isortK (·.1) (l ++ [((R.tok q).text, t, false)])) (xs := isortK FE.n (x0 :: (r ++ [(⟨(R.tok q).text, k, m, n, a, fl, false⟩ : FE)]))) 7 _ ((by simp : r.length + 1 + 1 = _).trans (isort_len (x0 :: (r ++ [(⟨(R.tok q).text, k, m, n, a, fl, false⟩ : FE)])))) ?_ hX'.sort ?_
         ·exact rfl
         ·rw [hF]
          simp only [hk, ne_eq, not_true, if_false, hin, Bool.false_and, Bool.false_eq_true, hn, e1, h3, if_true, PR.map]
       ·intro b6
        refine need_spec R w [sep] (by show 1 < 4294967296; decide) q1 g2 _ _ 0 ?_ ?_
        ·exact rfl
        ·cases hn2 : needF R [sep] q1 with
         | bad off e =>
          intro q3
          refine VUpd.drop 1 ?_ ?_ ?_ ?_
          iterate 3 exact rfl
          refine VUpd.now rfl ?_
          rw [hF]
          simp only [hk, ne_eq, not_true, if_false, hin, Bool.false_and, Bool.false_eq_true, hn, e1, h3, hn2]
          exact ⟨q3, rfl, rfl⟩
         | ok _ q3 =>
          have hq3 := needF_lt w _ _ _ g2 hn2
          have hm4 : q1 < q3 := by have := needF_mono _ _ _ hn2; simp only [List.length_cons, List.length_nil] at this; omega
          refine ⟨(q3, l ++ [((R.tok q).text, t, false)], (x0 :: (r ++ [(⟨(R.tok q).text, k, m, n, a, fl, false⟩ : FE)]))), ⟨by show p <= q3; omega, hq3, by show (r ++ [_]).length + 1 <= q3; simp; omega, hX', hnd', f, by show R.ts.length - q3 <= f; omega, ?_⟩, ?_, ?_, rfl, rfl⟩
          ·show fieldsLoop ty R sep fin _ R.ts.length [] p = fieldsLoop ty R sep fin _ f (l ++ [((R.tok q).text, t, false)]) q3
           rw [he, fieldsLoop]
           simp only [hk, ne_eq, not_true, if_false, hin, Bool.false_and, Bool.false_eq_true, hn, e1, h3, hn2] <;> rfl
          ·show R.ts.length - q3 < R.ts.length - q
           omega
          ·exact .pick 6 [0, 1, 2, 3, 4, 5, 8] ⟨rfl, rfl, rfl, rfl, trivial⟩ rfl rfl rfl rfl rfl (by decide) ⟨rfl, rfl, rfl, rfl, rfl, rfl, fld_out 8 r (⟨(R.tok q).text, k, m, n, a, fl, false⟩ : FE), rfl, fld_set l _ t _, bdO_up _ _ (bd_setM _), rfl, rfl, fld_grow' x0 r (⟨(R.tok q).text, k, m, n, a, fl, false⟩ : FE), bdO_d _ _ _, trivial⟩
      ·refine VUpd.drop 1 ?_ ?_ ?_ ?_
       iterate 3 exact rfl
       refine VUpd.now rfl ?_
       rw [hF]
       simp only [hk, ne_eq, not_true, if_false, hin, Bool.false_and, Bool.false_eq_true, hn, e1]
       exact ⟨q1, rfl, rfl⟩
    ·refine skip_spec R (q + 1) (R.tok (q + 1)) [63] (Rd.tok_some hq1) (by omega) 0 ?_ (fun h2 => ?_) (fun h2 => ?_)
     ·exact rfl
     ·have hq0' : q + 1 + 1 < R.ts.length := w.step hq1 h2
      intro b4
      refine need_spec R w [[58]] (by decide) (q + 1 + 1) hq0' _ _ 0 ?_ ?_
      ·exact rfl
      cases hn : needF R [[58]] (q + 1 + 1) with
      | bad off e =>
       intro q2
       refine VUpd.drop 1 ?_ ?_ ?_ ?_
       iterate 3 exact rfl
       refine VUpd.now rfl ?_
       rw [hF]
       simp only [hk, ne_eq, not_true, if_false, hin, h2, Bool.and_self, Bool.true_and, if_true, hn]
       exact ⟨q2, rfl, rfl⟩
      | ok _ q2 =>
       have hq2 := needF_lt w _ _ _ hq0' hn
       have hm2 := needF_mono _ _ _ hn
       have hm2 : p <= q2 := by rw [hm2]; omega
       have hm3 : q < q2 := by have := needF_mono _ _ _ hn; simp only [List.length_cons, List.length_nil] at this; omega
       refine ht.call q2 hm2 hq2 0 _ _ ?_ (fun t d q1 e1 hd => ?_) (fun off e q1 e1 => ?_)
       ·exact rfl
       ·obtain ⟨k, m, n, a, fl, rfl⟩ := hd.five
        obtain ⟨g1, g2⟩ := ht.lt q2 t q1 hm2 hq2 e1
        have hX' : FlsX (l ++ [((R.tok q).text, t, true)]) ((x0 :: r) ++ [(⟨(R.tok q).text, k, m, n, a, fl, true⟩ : FE)]) := hX.snoc (x := (⟨(R.tok q).text, k, m, n, a, fl, true⟩ : FE)) hd
        have hnd' : (((x0 :: r ++ [(⟨(R.tok q).text, k, m, n, a, fl, true⟩ : FE)] : List FE)).map FE.n).Nodup := fld_nodup hnd hN hin
        have hr1 : r.length + 1 <= q := hal
        intro b5
        refine vni ?_ ?_
        ·repeat' (first | exact trivial | exact rfl | exact Nat.le_refl _ | exact (fld_fit hr1 (by omega) rfl).1 | exact (fld_fit hr1 (by omega) rfl).2 | (simp only [rows, List.length_map, List.length_cons]; omega) | refine vnf rfl ?_ | refine And.intro ?_ ?_)
        refine vni rfl (vni ⟨rfl, rfl, by simp [rows], Nat.le_refl _, fld_fit hr1 (by omega) rfl⟩ ?_)
        refine vcn rfl (vcn (lit_full (r.length + 1)) ?_)
        refine vni ?_ ?_
        ·repeat' (first | exact trivial | exact rfl | exact Nat.le_of_ble_eq_true rfl | refine vnf rfl ?_ | refine exf zeroF (fld_zero x0 r) ?_ | refine vni (fld_lt r) ?_ | refine And.intro ?_ ?_)
        refine vnf rfl ?_
        refine vni (fld_lt r) ?_
        refine vni ?_ ?_
        ·repeat' (first | exact trivial | exact rfl | exact Nat.le_of_ble_eq_true rfl | refine vnf rfl ?_ | refine exf zeroF (fld_zero x0 r) ?_ | refine vni (fld_lt r) ?_ | refine And.intro ?_ ?_)
        refine exf zeroF (fld_zero x0 r) ?_
        refine skip_spec R q1 (R.tok q1) fin (Rd.tok_some g2) (by omega) 0 ?_ (fun h3 => ?_) (fun h3 => ?_)
        ·exact rfl
        ·refine sorted_spec (x0 :: (r ++ [(⟨(R.tok q).text, k, m, n, a, fl, true⟩ : FE)])) hnd' (by simp only [List.length_cons, List.length_append, List.length_nil] <;> omega) (r.length + 1 + 1) (by simp) 8 ?_ ?_
         ·exact congrArg (fun x => some (VObj.row 7 x)) (fld_grow x0 r (⟨(R.tok q).text, k, m, n, a, fl, true⟩ : FE))
         ·refine fld_end (l := isortK (·.1) (l ++ [((R.tok q).text, t, true)])) (xs := isortK FE.n (x0 :: (r ++ [(⟨(R.tok q).text, k, m, n, a, fl, true⟩ : FE)]))) 7 _ ((by simp : r.length + 1 + 1 = _).trans (isort_len (x0 :: (r ++ [(⟨(R.tok q).text, k, m, n, a, fl, true⟩ : FE)])))) ?_ hX'.sort ?_
          ·exact rfl
          ·rw [hF]
           simp only [hk, ne_eq, not_true, if_false, hin, h2, Bool.and_self, Bool.true_and, if_true, hn, e1, h3, if_true, PR.map]
        ·intro b6
         refine need_spec R w [sep] (by show 1 < 4294967296; decide) q1 g2 _ _ 0 ?_ ?_
         ·exact rfl
         ·cases hn2 : needF R [sep] q1 with
          | bad off e =>
           intro q3
           refine VUpd.drop 1 ?_ ?_ ?_ ?_
           iterate 3 exact rfl
           refine VUpd.now rfl ?_
           rw [hF]
           simp only [hk, ne_eq, not_true, if_false, hin, h2, Bool.and_self, Bool.true_and, if_true, hn, e1, h3, hn2]
           exact ⟨q3, rfl, rfl⟩
          | ok _ q3 =>
           have hq3 := needF_lt w _ _ _ g2 hn2
           have hm4 : q1 < q3 := by have := needF_mono _ _ _ hn2; simp only [List.length_cons, List.length_nil] at this; omega
           refine ⟨(q3, l ++ [((R.tok q).text, t, true)], (x0 :: (r ++ [(⟨(R.tok q).text, k, m, n, a, fl, true⟩ : FE)]))), ⟨by show p <= q3; omega, hq3, by show (r ++ [_]).length + 1 <= q3; simp; omega, hX', hnd', f, by show R.ts.length - q3 <= f; omega, ?_⟩, ?_, ?_, rfl, rfl⟩
           ·show fieldsLoop ty R sep fin _ R.ts.length [] p = fieldsLoop ty R sep fin _ f (l ++ [((R.tok q).text, t, true)]) q3
            rw [he, fieldsLoop]
            simp only [hk, ne_eq, not_true, if_false, hin, h2, Bool.and_self, Bool.true_and, if_true, hn, e1, h3, hn2] <;> rfl
           ·show R.ts.length - q3 < R.ts.length - q
            omega
           ·exact .pick 6 [0, 1, 2, 3, 4, 5, 8] ⟨rfl, rfl, rfl, rfl, trivial⟩ rfl rfl rfl rfl rfl (by decide) ⟨rfl, rfl, rfl, rfl, rfl, rfl, fld_out 8 r (⟨(R.tok q).text, k, m, n, a, fl, true⟩ : FE), rfl, fld_set l _ t _, bdO_up _ _ (bd_setM _), rfl, rfl, fld_grow' x0 r (⟨(R.tok q).text, k, m, n, a, fl, true⟩ : FE), bdO_d _ _ _, trivial⟩
       ·refine VUpd.drop 1 ?_ ?_ ?_ ?_
        iterate 3 exact rfl
        refine VUpd.now rfl ?_
        rw [hF]
        simp only [hk, ne_eq, not_true, if_false, hin, h2, Bool.and_self, Bool.true_and, if_true, hn, e1]
        exact ⟨q1, rfl, rfl⟩
     ·have hq0' : q + 1 < R.ts.length := hq1
      intro b4
      refine need_spec R w [[58]] (by decide) (q + 1) hq0' _ _ 0 ?_ ?_
      ·exact rfl
      cases hn : needF R [[58]] (q + 1) with
      | bad off e =>
       intro q2
       refine VUpd.drop 1 ?_ ?_ ?_ ?_
       iterate 3 exact rfl
       refine VUpd.now rfl ?_
       rw [hF]
       simp only [hk, ne_eq, not_true, if_false, hin, h2, Bool.true_and, Bool.and_false, Bool.false_eq_true, hn]
       exact ⟨q2, rfl, rfl⟩
      | ok _ q2 =>
       have hq2 := needF_lt w _ _ _ hq0' hn
       have hm2 := needF_mono _ _ _ hn
       have hm2 : p <= q2 := by rw [hm2]; omega
       have hm3 : q < q2 := by have := needF_mono _ _ _ hn; simp only [List.length_cons, List.length_nil] at this; omega
       refine ht.call q2 hm2 hq2 0 _ _ ?_ (fun t d q1 e1 hd => ?_) (fun off e q1 e1 => ?_)
       ·exact rfl
       ·obtain ⟨k, m, n, a, fl, rfl⟩ := hd.five
        obtain ⟨g1, g2⟩ := ht.lt q2 t q1 hm2 hq2 e1
        have hX' : FlsX (l ++ [((R.tok q).text, t, false)]) ((x0 :: r) ++ [(⟨(R.tok q).text, k, m, n, a, fl, false⟩ : FE)]) := hX.snoc (x := (⟨(R.tok q).text, k, m, n, a, fl, false⟩ : FE)) hd
        have hnd' : (((x0 :: r ++ [(⟨(R.tok q).text, k, m, n, a, fl, false⟩ : FE)] : List FE)).map FE.n).Nodup := fld_nodup hnd hN hin
        have hr1 : r.length + 1 <= q := hal
        intro b5
        refine vni ?_ ?_
        ·repeat' (first | exact trivial | exact rfl | exact Nat.le_refl _ | exact (fld_fit hr1 (by omega) rfl).1 | exact (fld_fit hr1 (by omega) rfl).2 | (simp only [rows, List.length_map, List.length_cons]; omega) | refine vnf rfl ?_ | refine And.intro ?_ ?_)
        refine vni rfl (vni ⟨rfl, rfl, by simp [rows], Nat.le_refl _, fld_fit hr1 (by omega) rfl⟩ ?_)
        refine vcn rfl (vcn (lit_full (r.length + 1)) ?_)
        refine vni ?_ ?_
        ·repeat' (first | exact trivial | exact rfl | exact Nat.le_of_ble_eq_true rfl | refine vnf rfl ?_ | refine exf zeroF (fld_zero x0 r) ?_ | refine vni (fld_lt r) ?_ | refine And.intro ?_ ?_)
        refine vnf rfl ?_
        refine vni (fld_lt r) ?_
        refine vni ?_ ?_
        ·repeat' (first | exact trivial | exact rfl | exact Nat.le_of_ble_eq_true rfl | refine vnf rfl ?_ | refine exf zeroF (fld_zero x0 r) ?_ | refine vni (fld_lt r) ?_ | refine And.intro ?_ ?_)
        refine exf zeroF (fld_zero x0 r) ?_
        refine skip_spec R q1 (R.tok q1) fin (Rd.tok_some g2) (by omega) 0 ?_ (fun h3 => ?_) (fun h3 => ?_)
        ·exact rfl
        ·refine sorted_spec (x0 :: (r ++ [(⟨(R.tok q).text, k, m, n, a, fl, false⟩ : FE)])) hnd' (by simp only [List.length_cons, List.length_append, List.length_nil] <;> omega) (r.length + 1 + 1) (by simp) 8 ?_ ?_
         ·exact congrArg (fun x => some (VObj.row 7 x)) (fld_grow x0 r (⟨(R.tok q).text, k, m, n, a, fl, false⟩ : FE))
         ·refine fld_end (l := isortK (·.1) (l ++ [((R.tok q).text, t, false)])) (xs := isortK FE.n (x0 :: (r ++ [(⟨(R.tok q).text, k, m, n, a, fl, false⟩ : FE)]))) 7 _ ((by simp : r.length + 1 + 1 = _).trans (isort_len (x0 :: (r ++ [(⟨(R.tok q).text, k, m, n, a, fl, false⟩ : FE)])))) ?_ hX'.sort ?_
          ·exact rfl
          ·rw [hF]
           simp only [hk, ne_eq, not_true, if_false, hin, h2, Bool.true_and, Bool.and_false, Bool.false_eq_true, hn, e1, h3, if_true, PR.map]
        ·intro b6
         refine need_spec R w [sep] (by show 1 < 4294967296; decide) q1 g2 _ _ 0 ?_ ?_
         ·exact rfl
         ·cases hn2 : needF R [sep] q1 with
          | bad off e =>
           intro q3
           refine VUpd.drop 1 ?_ ?_ ?_ ?_
           iterate 3 exact rfl
           refine VUpd.now rfl ?_
           rw [hF]
           simp only [hk, ne_eq, not_true, if_false, hin, h2, Bool.true_and, Bool.and_false, Bool.false_eq_true, hn, e1, h3, hn2]
           exact ⟨q3, rfl, rfl⟩
          | ok _ q3 =>
           have hq3 := needF_lt w _ _ _ g2 hn2
           have hm4 : q1 < q3 := by have := needF_mono _ _ _ hn2; simp only [List.length_cons, List.length_nil] at this; omega
           refine ⟨(q3, l ++ [((R.tok q).text, t, false)], (x0 :: (r ++ [(⟨(R.tok q).text, k, m, n, a, fl, false⟩ : FE)]))), ⟨by show p <= q3; omega, hq3, by show (r ++ [_]).length + 1 <= q3; simp; omega, hX', hnd', f, by show R.ts.length - q3 <= f; omega, ?_⟩, ?_, ?_, rfl, rfl⟩
           ·show fieldsLoop ty R sep fin _ R.ts.length [] p = fieldsLoop ty R sep fin _ f (l ++ [((R.tok q).text, t, false)]) q3
            rw [he, fieldsLoop]
            simp only [hk, ne_eq, not_true, if_false, hin, h2, Bool.true_and, Bool.and_false, Bool.false_eq_true, hn, e1, h3, hn2] <;> rfl
           ·show R.ts.length - q3 < R.ts.length - q
            omega
           ·exact .pick 6 [0, 1, 2, 3, 4, 5, 8] ⟨rfl, rfl, rfl, rfl, trivial⟩ rfl rfl rfl rfl rfl (by decide) ⟨rfl, rfl, rfl, rfl, rfl, rfl, fld_out 8 r (⟨(R.tok q).text, k, m, n, a, fl, false⟩ : FE), rfl, fld_set l _ t _, bdO_up _ _ (bd_setM _), rfl, rfl, fld_grow' x0 r (⟨(R.tok q).text, k, m, n, a, fl, false⟩ : FE), bdO_d _ _ _, trivial⟩
       ·refine VUpd.drop 1 ?_ ?_ ?_ ?_
        iterate 3 exact rfl
        refine VUpd.now rfl ?_
        rw [hF]
        simp only [hk, ne_eq, not_true, if_false, hin, h2, Bool.true_and, Bool.and_false, Bool.false_eq_true, hn, e1]
        exact ⟨q1, rfl, rfl⟩
   ·refine VUpd.drop 1 ?_ ?_ ?_ ?_
    iterate 3 exact rfl
    refine VUpd.now rfl ?_
    rw [hF]
    simp only [hk, ne_eq, not_true, if_false, hin, if_true]
    exact ⟨q + 1, rfl, rfl⟩
   ·refine VUpd.drop 1 ?_ ?_ ?_ ?_
    iterate 3 exact rfl
    refine VUpd.now rfl ?_
    rw [hF]
    simp only [hk, ne_eq, not_false_iff, if_true]
    exact ⟨stepP (R.tok q) q, rfl, rfl⟩
end Go.Proofs.YthfehkcfhiilfaaGreatDoor
