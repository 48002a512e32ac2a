/- Contracts of the reference's parser. -/
import Derived.Test.YtifncjhjnjldmaaGreatDoorKRe
import Derived.Test.YtifncjhjnjldmaaGreatDoorKSa
import Derived.Test.YtifncjhjnjldmaaGreatDoorKFa
namespace Go.Proofs.YtifncjhjnjldmaaGreatDoor
open Go.AM Go.VM
structure RS where
 p : Nat
 off : Nat
 e : Nat
def RS.v (R : Rd) (x : RS) : V := .agg [.d (.ps R.b 0 3 R.cap (R.ts.map tokD)), intV x.p, intV x.off, intV x.e]
def RS.fail (x : RS) (off e : Nat) : RS := if x.e = 0 then ⟨x.p, off, e⟩ else x
def RS.wrong (R : Rd) (x : RS) : RS := x.fail (R.tok x.p).off 3
def RS.is (R : Rd) (x : RS) (s : List UInt8) : Bool := decide (x.e = 0) && isTok (R.tok x.p) s
def RS.isKind (R : Rd) (x : RS) (k : Nat) : Bool := decide (x.e = 0) && decide ((R.tok x.p).kind = k)
def RS.next (x : RS) : RS := ⟨x.p + 1, x.off, x.e⟩
def RS.expect (R : Rd) (x : RS) (s : List UInt8) : RS := if x.is R s then x.next else x.wrong R
theorem bdS_zero (k : Nat) (σ : VS) : bdS k σ 0 = true := by rw [bdS]
theorem fin0 {v w : V} {σ : VS} (h : v = w) (hb : bd 0 w = true) : VUpd 0 (.ret v) σ fun r σ' => σ' = [] /\ r = .ret w := by
 subst h
 exact .drop 0 (Nat.ble_eq_true_of_le (Nat.zero_le _)) (bdS_zero 0 σ) hb (.now rfl ⟨rfl, rfl⟩)
theorem eqz {e : Nat} (h : decide (Int.ofNat e = 0) = true) : e = 0 := deq (b := 0) h
theorem nez {e : Nat} (h : decide (Int.ofNat e = 0) = false) : e ≠ 0 := dneq (b := 0) h
theorem rfail_spec (R : Rd) (x : RS) (off e : Nat) {σ : VS} {K : VCR -> VS -> Prop} (hk : K (.ret ((x.fail off e).v R)) σ) : VCall C intr0 F.modcertref05_fail [x.v R, intV off, intV e] σ K := by
 refine VCall.pure ?_ rfl rfl hk
 refine VCall.b1 nofz (fun _ => rfl) ?_
 refine vci (fun h => ?_) (fun h => ?_)
 ·refine fin0 ?_ rfl
  rw [RS.fail, if_pos (eqz h)]; rfl
 ·refine fin0 ?_ rfl
  rw [RS.fail, if_neg (nez h)]; rfl
theorem rwrong_spec (R : Rd) (x : RS) (hp : x.p < R.ts.length) {σ : VS} {K : VCR -> VS -> Prop} (hk : K (.ret ((x.wrong R).v R)) σ) : VCall C intr0 F.modcertref05_wrong [x.v R] σ K := by
 have ht := tok_at (Rd.tok_some hp)
 refine VCall.pure ?_ rfl rfl hk
 refine VCall.b1 nofz (fun _ => rfl) ?_
 refine vnf rfl ?_
 refine exf _ ht ?_
 repeat refine vni (by repeat' (first | exact trivial | exact rfl | refine vnf rfl ?_ | refine exf _ ht ?_ | refine And.intro ?_ ?_)) ?_
 refine rfail_spec R x _ 3 ?_
 repeat refine vni (by repeat' (first | exact trivial | exact rfl | refine vnf rfl ?_ | refine exf _ ht ?_ | refine And.intro ?_ ?_)) ?_
 refine fin0 ?_ ?_ <;> exact rfl
theorem ris_spec (R : Rd) (x : RS) (s : List UInt8) (hp : x.p < R.ts.length) {σ : VS} {K : VCR -> VS -> Prop} (hk : K (.ret (boolV (x.is R s))) σ) : VCall C intr0 F.modcertref05_is [x.v R, strV s] σ K := by
 have ht := tok_at (Rd.tok_some hp)
 refine VCall.pure ?_ rfl rfl hk
 unfold RS.is isTok
 refine VCall.b1 nofz (fun _ => rfl) ?_
 refine vnf rfl ?_
 refine exf _ ht ?_
 refine vci (fun h => ?_) (fun h => ?_)
 ·repeat first | refine vcp h ?_
  rw [decide_eq_true (eqz h), Bool.true_and]
  refine vci (fun h5 => ?_) (fun h5 => ?_)
  ·repeat first | refine vcp h ?_ | refine vcp h5 ?_
   refine fin0 ?_ rfl
   rw [decide_eq_true (deq (b := 5) h5)]
   show boolV _ = boolV _
   simp
  ·repeat first | refine vcp h ?_ | refine vcn h5 ?_
   refine vci (fun h6 => ?_) (fun h6 => ?_)
   ·repeat first | refine vcp h ?_ | refine vcp h6 ?_ | refine vcn h5 ?_
    refine fin0 ?_ rfl
    rw [decide_eq_true (deq (b := 6) h6)]
    show boolV _ = boolV _
    simp
   ·repeat first | refine vcp h ?_ | refine vcn h5 ?_ | refine vcn h6 ?_
    refine fin0 ?_ rfl
    rw [decide_eq_false (dneq (b := 5) h5), decide_eq_false (dneq (b := 6) h6)]
    show boolV _ = boolV _
    simp
 ·repeat first | refine vcn h ?_
  refine fin0 ?_ rfl
  rw [decide_eq_false (nez h)]; rfl
theorem risKind_spec (R : Rd) (x : RS) (k : Nat) (hp : x.p < R.ts.length) {σ : VS} {K : VCR -> VS -> Prop} (hk : K (.ret (boolV (x.isKind R k))) σ) : VCall C intr0 F.modcertref05_isKind [x.v R, intV k] σ K := by
 have ht := tok_at (Rd.tok_some hp)
 refine VCall.pure ?_ rfl rfl hk
 unfold RS.isKind
 refine VCall.b1 nofz (fun _ => rfl) ?_
 refine vci (fun h => ?_) (fun h => ?_)
 ·repeat first | refine vcp h ?_
  refine vnf rfl ?_
  refine exf _ ht ?_
  repeat first | refine vcp h ?_
  refine fin0 ?_ rfl
  rw [decide_eq_true (eqz h), Bool.true_and]
  exact congrArg boolV (decide_eq_decide.2 (by simp only [Int.ofNat_eq_natCast]; omega))
 ·repeat first | refine vcn h ?_
  refine fin0 ?_ rfl
  rw [decide_eq_false (nez h)]; rfl
theorem rnext_spec (R : Rd) (x : RS) (hp : x.p < 4294967296) {σ : VS} {K : VCR -> VS -> Prop} (hk : K (.ret (x.next.v R)) σ) : VCall C intr0 F.modcertref05_next [x.v R] σ K := by
 refine VCall.pure ?_ rfl rfl hk
 refine VCall.b1 nofz (fun _ => rfl) ?_
 refine fin0 ?_ rfl
 show V.agg [_, V.d (.int .i64 (IntKind.i64.wrap (Int.ofNat x.p + 1))), _, _] = _
 rw [wrap_succ (by omega)]
 rfl
theorem rexpect_spec (R : Rd) (w : R.Wf) (x : RS) (s : List UInt8) (hp : x.p < R.ts.length) {σ : VS} {K : VCR -> VS -> Prop} (hk : K (.ret ((x.expect R s).v R)) σ) : VCall C intr0 F.modcertref05_expect [x.v R, strV s] σ K := by
 have hlen := w.len
 refine VCall.pure ?_ rfl rfl hk
 refine VCall.b1 nofz (fun _ => rfl) ?_
 refine ris_spec R x s hp ?_
 unfold RS.expect
 cases h : x.is R s with
 | true =>
  refine rnext_spec R x (by omega) ?_
  refine fin0 ?_ ?_ <;> exact rfl
 | false =>
  refine rwrong_spec R x hp ?_
  refine fin0 ?_ ?_ <;> exact rfl
def RS.wordT (R : Rd) (x : RS) (k : Nat) : List UInt8 := if x.isKind R k then (R.tok x.p).text else []
def RS.word (R : Rd) (x : RS) (k : Nat) : RS := if x.isKind R k then x.next else x.wrong R
theorem rword_spec (R : Rd) (w : R.Wf) (x : RS) (k : Nat) (hp : x.p < R.ts.length) {σ : VS} {K : VCR -> VS -> Prop} (hk : K (.ret (.tup [strV (x.wordT R k), intV (R.tok x.p).off, (x.word R k).v R])) σ) : VCall C intr0 F.modcertref05_word [x.v R, intV k] σ K := by
 have hlen := w.len
 have ht := tok_at (Rd.tok_some hp)
 refine VCall.pure ?_ rfl rfl hk
 refine VCall.b1 nofz (fun _ => rfl) ?_
 refine vnf rfl ?_
 refine exf _ ht ?_
 refine risKind_spec R x k hp ?_
 unfold RS.word RS.wordT
 cases h : x.isKind R k with
 | true =>
  repeat refine vni (by repeat' (first | exact trivial | exact rfl | refine vnf rfl ?_ | refine exf _ ht ?_ | refine And.intro ?_ ?_)) ?_
  refine rnext_spec R x (by omega) ?_
  repeat refine vni (by repeat' (first | exact trivial | exact rfl | refine vnf rfl ?_ | refine exf _ ht ?_ | refine And.intro ?_ ?_)) ?_
  refine fin0 ?_ ?_ <;> exact rfl
 | false =>
  repeat refine vni (by repeat' (first | exact trivial | exact rfl | refine vnf rfl ?_ | refine exf _ ht ?_ | refine And.intro ?_ ?_)) ?_
  refine rwrong_spec R x hp ?_
  repeat refine vni (by repeat' (first | exact trivial | exact rfl | refine vnf rfl ?_ | refine exf _ ht ?_ | refine And.intro ?_ ?_)) ?_
  refine fin0 ?_ ?_ <;> exact rfl
theorem RS.fail_err {x : RS} (h : x.e ≠ 0) (off e : Nat) : x.fail off e = x := by rw [RS.fail, if_neg h]
theorem RS.wrong_err {R : Rd} {x : RS} (h : x.e ≠ 0) : x.wrong R = x := RS.fail_err h _ _
theorem RS.is_err {R : Rd} {x : RS} (h : x.e ≠ 0) (s : List UInt8) : x.is R s = false := by rw [RS.is, decide_eq_false h]; rfl
theorem RS.isKind_err {R : Rd} {x : RS} (h : x.e ≠ 0) (k : Nat) : x.isKind R k = false := by rw [RS.isKind, decide_eq_false h]; rfl
theorem RS.expect_err {R : Rd} {x : RS} (h : x.e ≠ 0) (s : List UInt8) : x.expect R s = x := by rw [RS.expect, RS.is_err h, if_neg (by decide), RS.wrong_err h]
theorem RS.word_err {R : Rd} {x : RS} (h : x.e ≠ 0) (k : Nat) : x.word R k = x := by rw [RS.word, RS.isKind_err h, if_neg (by decide), RS.wrong_err h]
def RS.at (p : Nat) : RS := ⟨p, 0, 0⟩
theorem RS.is_at (R : Rd) (p : Nat) (s : List UInt8) : (RS.at p).is R s = isTok (R.tok p) s := rfl
theorem RS.isKind_at (R : Rd) (p k : Nat) : (RS.at p).isKind R k = decide ((R.tok p).kind = k) := rfl
theorem RS.expect_yes {R : Rd} {p : Nat} {s : List UInt8} (h : isTok (R.tok p) s = true) : (RS.at p).expect R s = RS.at (p + 1) := by rw [RS.expect, RS.is_at, h, if_pos rfl]; rfl
theorem RS.expect_no {R : Rd} {p : Nat} {s : List UInt8} (h : isTok (R.tok p) s = false) : (RS.at p).expect R s = ⟨p, (R.tok p).off, 3⟩ := by rw [RS.expect, RS.is_at, h, if_neg (by decide)]; rfl
theorem RS.word_yes {R : Rd} {p k : Nat} (h : (R.tok p).kind = k) : (RS.at p).word R k = RS.at (p + 1) := by rw [RS.word, RS.isKind_at, decide_eq_true h, if_pos rfl]; rfl
theorem RS.word_no {R : Rd} {p k : Nat} (h : (R.tok p).kind ≠ k) : (RS.at p).word R k = ⟨p, (R.tok p).off, 3⟩ := by rw [RS.word, RS.isKind_at, decide_eq_false h, if_neg (by decide)]; rfl
theorem fz_pair {σ : VS} {i es n : Nat} {els : List (List D)} {R : Rd} {x : RS} (hi : nth σ i = some (.row es (els.map fun d => d.map V.d))) (hn : n = els.length) {P : VCR -> Prop} (hP : ∀ b, P (.ret (.tup [.d (.ps b 0 es n els), x.v R]))) :
  VUpd 0 (.ret (.tup [.ms i es 0 n n, x.v R])) σ fun r σ' => σ' = [] /\ closedCR r = true /\ P r := by
 refine VUpd.freeze i (es := es) (l := els) hi (drows_d els) (by simp [fzOkCR, fzOk, fzOkL, RS.v, intV, hn]) (fun b => ?_)
 have e : fzCR i b els (.ret (.tup [.ms i es 0 n n, x.v R])) = .ret (.tup [.d (.ps b 0 es n els), x.v R]) := by
  have h1 : fzV i b els (.ms i es 0 n n) = .d (.ps b 0 es n els) := by
   rw [fzV, nbeq_self]
   show V.d (.ps b (0 * es) es n ((els.drop 0).take n)) = _
   rw [take_self _ _ hn, Nat.zero_mul]
  have h2 : fzV i b els (x.v R) = x.v R := by simp [RS.v, fzV, fzL, intV]
  simp only [fzCR, fzV, fzL]
  rw [h2]
  have h1' := h1
  rw [fzV] at h1'
  rw [h1']
 rw [e]
 refine VUpd.drop 0 (Nat.ble_eq_true_of_le (Nat.zero_le _)) (bdS_zero 0 _) rfl (VUpd.now rfl ⟨rfl, rfl, hP b⟩)
structure RTyp (ty : Nat -> PR Ty) (R : Rd) (lo : Nat) : Prop where
 lt : ∀ p t q, lo <= p -> p < R.ts.length -> ty p = .ok t q -> p < q /\ q < R.ts.length
 call : ∀ p, lo <= p -> p < R.ts.length -> ∀ (σ : VS) (K : VCR -> VS -> Prop), (∀ t d q, ty p = .ok t q -> TyD t d -> K (.ret (.tup [.agg (d.map V.d), (RS.at q).v R])) σ) ->
  (∀ off e q k m n a f, ty p = .bad off e -> e ≠ 0 -> q < R.ts.length -> K (.ret (.tup [.agg [.d k, .d m, .d n, .d a, .d f], (RS.mk q off e).v R])) σ) -> VCall C intr0 F.modcertref05_typeOf [(RS.at p).v R] σ K
 err : ∀ x : RS, x.e ≠ 0 -> x.p < R.ts.length -> ∀ (σ : VS) (K : VCR -> VS -> Prop), (∀ k m n a f, K (.ret (.tup [.agg [.d k, .d m, .d n, .d a, .d f], x.v R])) σ) -> VCall C intr0 F.modcertref05_typeOf [x.v R] σ K
theorem RTyp.up {ty : Nat -> PR Ty} {R : Rd} {lo lo' : Nat} (h : RTyp ty R lo) (hl : lo <= lo') : RTyp ty R lo' :=
 ⟨fun p t q h1 => h.lt p t q (by omega), fun p h1 => h.call p (by omega), h.err⟩
theorem rargs_err (R : Rd) (x : RS) (hx : x.e ≠ 0) (hp : x.p < R.ts.length) {σ : VS} {K : VCR -> VS -> Prop} (hk : K (.ret (.tup [.d .nils, x.v R])) σ) : VCall C intr0 F.modcertref05_args [x.v R] σ K := by
 refine VCall.pure ?_ rfl rfl hk
 refine VCall.b1 nofz (fun _ => rfl) ?_
 refine ris_spec R x [91] hp ?_
 rw [RS.is_err hx]
 repeat refine vni (by repeat' (first | exact trivial | exact rfl | refine vnf rfl ?_ | refine And.intro ?_ ?_)) ?_
 refine fin0 ?_ ?_ <;> exact rfl
def rargP (R : Rd) (x : PR (List Ty)) (r : VCR) : Prop := match x with
 | .ok l q => ∃ d, ArgsD l d /\ r = .ret (.tup [.d d, (RS.at q).v R])
 | .bad off e => e ≠ 0 /\ ∃ d q, q < R.ts.length /\ r = .ret (.tup [.d d, (RS.mk q off e).v R])
def rafz : Nat -> Bool := fun t => Nat.beq t 24
def raS (R : Rd) (x : RS) (c : List V) (els : List (List D)) : VS := [.box (match x.v R with | .agg l => l | _ => []), .box c, .row 5 (els.map fun d => d.map V.d)]
def raT (n : Nat) : Tm := [(1, .bp 0 0), (2, .d .nils), (3, .bp 1 0), (4, .ms 2 5 0 n n)]
def rst0 : List V := [.d .nils, intV 0, intV 0, intV 0]
theorem ra_fit {c n : Nat} (h : c <= 4294967296) (hn : n = 1 := by rfl) : (c + n) * 88 <= limit /\ c + n <= limit := by
 unfold limit
 omega
theorem ra_out (i : Nat) (els : List (List D)) (d : List D) : some (V.ms i 5 0 (els.length + 1) (els.length + 1)) = some (V.ms i 5 0 (els ++ [d]).length (els ++ [d]).length) := by simp
theorem ra_grow {π : Nat -> Nat} (els : List (List D)) (d : List D) : some (VObj.row 5 (List.take els.length (List.drop 0 (els.map fun d => d.map V.d)) ++ [d.map V.d])) = some (renO π (.row 5 ((els ++ [d]).map fun d => d.map V.d))) := by
 rw [renO_d, List.drop_zero, List.take_of_length_le (by simp), List.map_append]
 rfl
theorem ra_grow' (els : List (List D)) (d : List D) : some (VObj.row 5 (List.take els.length (List.drop 0 (els.map fun d => d.map V.d)) ++ [d.map V.d])) = some (.row 5 ((els ++ [d]).map fun d => d.map V.d)) := by
 rw [List.drop_zero, List.take_of_length_le (by simp), List.map_append]
 rfl
set_option maxRecDepth 100000 in
set_option maxHeartbeats 8000000 in
theorem rargs_spec0 (R : Rd) (w : R.Wf) (ty : Nat -> PR Ty) (p : Nat) (hp : p < R.ts.length) (ht : RTyp ty R p) :
  VCall C intr0 F.modcertref05_args [(RS.at p).v R] [] fun r σ' => σ' = [] /\ closedCR r = true /\ rargP R (argsF ty R p) r := by
 have hlen := w.len
 refine VCall.b1 rafz (fun _ => rfl) ?_
 refine ris_spec R (RS.at p) [91] hp ?_
 rw [RS.is_at]
 cases h : isTok (R.tok p) [91] with
 | false =>
  repeat refine vni (by repeat' (first | exact trivial | exact rfl | refine vnf rfl ?_ | refine And.intro ?_ ?_)) ?_
  refine VUpd.drop 0 ?_ ?_ ?_ ?_
  iterate 3 exact rfl
  refine VUpd.now rfl ⟨rfl, rfl, ?_⟩
  rw [argsF, h, if_neg (by decide)]
  exact ⟨_, .nil, rfl⟩
 | true =>
  have hw := w.step hp h
  refine VCode.arr (tm0 := raT 0) (σ0 := raS R (RS.at p) rst0 []) (.same ⟨rfl, rfl, rfl, rfl, trivial⟩ rfl) ?_
  refine VCode.iter (fun x : Nat × List Ty × List (List D) => raT x.2.2.length) (fun x => raS R (RS.at x.1) rst0 x.2.2) (fun x => R.ts.length - x.1)
   (fun x => p <= x.1 /\ x.1 + 1 < R.ts.length /\ x.2.2.length <= x.1 /\ ArgsL x.2.1 x.2.2 /\ ∃ f, R.ts.length - (x.1 + 1) <= f /\ argsF ty R p = argsLoop ty R f x.2.1 (x.1 + 1)) ?_ (p, [], []) ⟨Nat.le_refl _, hw, Nat.zero_le _, .nil, R.ts.length, by show R.ts.length - (p + 1) <= R.ts.length; omega, by rw [argsF, h, if_pos rfl]⟩
  rintro ⟨q, l, els⟩ ⟨hq0, hq, hal, hL, f, hf, he⟩
  have hq0 : p <= q := hq0
  have hq : q + 1 < R.ts.length := hq
  have hal : els.length <= q := hal
  have hL : ArgsL l els := hL
  have hf : R.ts.length - (q + 1) <= f := hf
  have he : argsF ty R p = argsLoop ty R f l (q + 1) := he
  obtain ⟨f, rfl⟩ : ∃ k, f = k + 1 := ⟨f - 1, by omega⟩
  rw [argsLoop] at he
  refine rnext_spec R (RS.at q) (by show q < 4294967296; omega) ?_
  refine ht.call (q + 1) (by omega) hq _ _ (fun t d q1 e1 hd => ?_) (fun off e q1 k m n a fl e1 hne hq1 => ?_)
  ·obtain ⟨k, m, n, a, fl, rfl⟩ := hd.five
   obtain ⟨g1, g2⟩ := ht.lt (q + 1) _ _ (by omega) hq e1
   rw [e1] at he
   dsimp only at he
   intro b3
   refine vni rfl (vni ⟨rfl, rfl, by simp, Nat.le_refl _, ra_fit (show els.length <= 4294967296 by omega)⟩ ?_)
   refine vcn rfl (vcn (lit_full els.length) ?_)
   refine ris_spec R (RS.at q1) [44] g2 ?_
   rw [RS.is_at]
   cases h2 : isTok (R.tok q1) [44] with
   | true =>
    rw [h2, if_pos rfl] at he
    refine ⟨(q1, l ++ [t], els ++ [_]), ⟨by show p <= q1; omega, w.step g2 h2, by show (els ++ [_]).length <= q1; simp; omega, hL.snoc hd, f, by show R.ts.length - (q1 + 1) <= f; omega, he⟩, by show R.ts.length - q1 < R.ts.length - q; omega, ?_, rfl, rfl⟩
    exact .pick 2 [0, 1, 5] ⟨rfl, rfl, rfl, ra_out 5 els _, trivial⟩ rfl rfl rfl rfl rfl (by decide) ⟨rfl, rfl, rfl, rfl, ra_grow els _, bdO_d _ _ _, trivial⟩
   | false =>
    rw [h2, if_neg (by decide)] at he
    refine rexpect_spec R w (RS.at q1) [93] g2 ?_
    cases h3 : isTok (R.tok q1) [93] with
    | true =>
     rw [needF, h3, if_pos rfl, needF] at he
     rw [RS.expect_yes h3]
     refine fz_pair (i := 5) (es := 5) (els := els ++ [[.int .i64 (Int.ofNat k), .str m, .str n, a, fl]]) ?_ (by simp) (fun b => ?_)
     ·exact ra_grow' els _
     rw [he]
     exact ⟨_, .ps (hL.snoc hd) (by simp), rfl⟩
    | false =>
     rw [needF, h3, if_neg (by decide)] at he
     rw [RS.expect_no h3]
     refine fz_pair (i := 5) (es := 5) (els := els ++ [[.int .i64 (Int.ofNat k), .str m, .str n, a, fl]]) ?_ (by simp) (fun b => ?_)
     ·exact ra_grow' els _
     rw [he]
     exact ⟨by decide, _, q1, g2, rfl⟩
  ·rw [e1] at he
   dsimp only at he
   refine vci (fun h9 => ?_) (fun h9 => absurd (nz_of h9) hne)
   repeat refine vni (by repeat' (first | exact trivial | exact rfl | refine vnf rfl ?_ | refine And.intro ?_ ?_)) ?_
   refine VUpd.drop 0 ?_ ?_ ?_ ?_
   iterate 3 exact rfl
   refine VUpd.now rfl ⟨rfl, rfl, ?_⟩
   rw [he]
   exact ⟨hne, _, q1, hq1, rfl⟩
theorem rargs_spec (R : Rd) (w : R.Wf) (ty : Nat -> PR Ty) (p : Nat) (hp : p < R.ts.length) (ht : RTyp ty R p) {σ : VS} {K : VCR -> VS -> Prop}
  (h1 : ∀ l d q, argsF ty R p = .ok l q -> ArgsD l d -> K (.ret (.tup [.d d, (RS.at q).v R])) σ) (h2 : ∀ off e q d, argsF ty R p = .bad off e -> e ≠ 0 -> q < R.ts.length -> K (.ret (.tup [.d d, (RS.mk q off e).v R])) σ) : VCall C intr0 F.modcertref05_args [(RS.at p).v R] σ K := by
 refine VCall.closed (rargs_spec0 R w ty p hp ht) rfl (fun r h => ?_)
 unfold rargP at h
 split at h
 ·rename_i l q e
  obtain ⟨d, hd, rfl⟩ := h
  exact h1 l d q e hd
 ·rename_i off e' e
  obtain ⟨hne, d, q, hq, rfl⟩ := h
  exact h2 off e' q d e hne hq
def rtyP (R : Rd) (x : PR Ty) (r : VCR) : Prop := match x with
 | .ok t q => ∃ d, TyD t d /\ r = .ret (.tup [.agg (d.map V.d), (RS.at q).v R])
 | .bad off e => e ≠ 0 /\ ∃ k m n a f q, q < R.ts.length /\ r = .ret (.tup [.agg [.d k, .d m, .d n, .d a, .d f], (RS.mk q off e).v R])
set_option maxHeartbeats 4000000 in
theorem rbracket_spec0 (R : Rd) (w : R.Wf) (ty : Nat -> PR Ty) (p : Nat) (hp : p < R.ts.length) (ht : RTyp ty R p) :
  VCall C intr0 F.modcertref05_bracketed [(RS.at p).v R] [] fun r σ' => σ' = [] /\ closedCR r = true /\ rtyP R (bracketF ty R p) r := by
 have hlen := w.len
 refine VCall.b1 nofz (fun _ => rfl) ?_
 refine rexpect_spec R w (RS.at p) [91] hp ?_
 have he : bracketF ty R p = match needF R [[91]] p with
  | .bad o e => .bad o e
  | .ok _ q => match ty q with
   | .bad o e => .bad o e
   | .ok t q1 => match needF R [[93]] q1 with
    | .bad o e => .bad o e
    | .ok _ q2 => .ok t q2 := rfl
 cases h : isTok (R.tok p) [91] with
 | false =>
  rw [needF, h, if_neg (by decide)] at he
  rw [RS.expect_no h]
  refine ht.err _ (by show (3 : Nat) ≠ 0; decide) hp _ _ (fun k m n a f => ?_)
  repeat refine vni (by repeat' (first | exact trivial | exact rfl | refine vnf rfl ?_ | refine And.intro ?_ ?_)) ?_
  refine rexpect_spec R w _ [93] hp ?_
  rw [RS.expect_err (by show (3 : Nat) ≠ 0; decide)]
  repeat refine vni (by repeat' (first | exact trivial | exact rfl | refine vnf rfl ?_ | refine And.intro ?_ ?_)) ?_
  refine VUpd.drop 0 ?_ ?_ ?_ ?_
  iterate 3 exact rfl
  refine VUpd.now rfl ⟨rfl, rfl, ?_⟩
  rw [he]
  exact ⟨by decide, k, m, n, a, f, p, hp, rfl⟩
 | true =>
  rw [needF, h, if_pos rfl, needF] at he
  rw [RS.expect_yes h]
  dsimp only at he
  have hw := w.step hp h
  refine ht.call (p + 1) (by omega) hw _ _ (fun t d q1 e1 hd => ?_) (fun off e q1 k m n a fl e1 hne hq1 => ?_)
  ·obtain ⟨k, m, n, a, fl, rfl⟩ := hd.five
   obtain ⟨g1, g2⟩ := ht.lt (p + 1) _ _ (by omega) hw e1
   rw [e1] at he
   dsimp only at he
   repeat refine vni (by repeat' (first | exact trivial | exact rfl | refine vnf rfl ?_ | refine And.intro ?_ ?_)) ?_
   refine rexpect_spec R w (RS.at q1) [93] g2 ?_
   cases h3 : isTok (R.tok q1) [93] with
   | true =>
    rw [needF, h3, if_pos rfl, needF] at he
    rw [RS.expect_yes h3]
    repeat refine vni (by repeat' (first | exact trivial | exact rfl | refine vnf rfl ?_ | refine And.intro ?_ ?_)) ?_
    refine VUpd.drop 0 ?_ ?_ ?_ ?_
    iterate 3 exact rfl
    refine VUpd.now rfl ⟨rfl, rfl, ?_⟩
    rw [he]
    exact ⟨_, hd, rfl⟩
   | false =>
    rw [needF, h3, if_neg (by decide)] at he
    rw [RS.expect_no h3]
    repeat refine vni (by repeat' (first | exact trivial | exact rfl | refine vnf rfl ?_ | refine And.intro ?_ ?_)) ?_
    refine VUpd.drop 0 ?_ ?_ ?_ ?_
    iterate 3 exact rfl
    refine VUpd.now rfl ⟨rfl, rfl, ?_⟩
    rw [he]
    exact ⟨by decide, _, _, _, _, _, q1, g2, rfl⟩
  ·rw [e1] at he
   dsimp only at he
   repeat refine vni (by repeat' (first | exact trivial | exact rfl | refine vnf rfl ?_ | refine And.intro ?_ ?_)) ?_
   refine rexpect_spec R w _ [93] hq1 ?_
   rw [RS.expect_err hne]
   repeat refine vni (by repeat' (first | exact trivial | exact rfl | refine vnf rfl ?_ | refine And.intro ?_ ?_)) ?_
   refine VUpd.drop 0 ?_ ?_ ?_ ?_
   iterate 3 exact rfl
   refine VUpd.now rfl ⟨rfl, rfl, ?_⟩
   rw [he]
   exact ⟨hne, k, m, n, a, fl, q1, hq1, rfl⟩
theorem rbracket_spec (R : Rd) (w : R.Wf) (ty : Nat -> PR Ty) (p : Nat) (hp : p < R.ts.length) (ht : RTyp ty R p) {σ : VS} {K : VCR -> VS -> Prop}
  (h1 : ∀ t d q, bracketF ty R p = .ok t q -> TyD t d -> K (.ret (.tup [.agg (d.map V.d), (RS.at q).v R])) σ) (h2 : ∀ off e q k m n a f, bracketF ty R p = .bad off e -> e ≠ 0 -> q < R.ts.length -> K (.ret (.tup [.agg [.d k, .d m, .d n, .d a, .d f], (RS.mk q off e).v R])) σ) : VCall C intr0 F.modcertref05_bracketed [(RS.at p).v R] σ K := by
 refine VCall.closed (rbracket_spec0 R w ty p hp ht) rfl (fun r h => ?_)
 unfold rtyP at h
 split at h
 ·rename_i t q e
  obtain ⟨d, hd, rfl⟩ := h
  exact h1 t d q e hd
 ·rename_i off e' e
  obtain ⟨hne, k, m, n, a, f, q, hq, rfl⟩ := h
  exact h2 off e' q k m n a f e hne hq
end Go.Proofs.YtifncjhjnjldmaaGreatDoor
namespace Go.VM
open Go.AM
def plc (l : List (List UInt8)) (n : List UInt8) : Nat := (l.takeWhile fun x => bytesLt x n).length
theorem plc_stop {l : List (List UInt8)} {n : List UInt8} {i : Nat} (hi : i <= l.length) (h1 : ∀ x ∈ l.take i, bytesLt x n = true) (h2 : ∀ x, l[i]? = some x -> bytesLt x n = false) : plc l n = i := by
 have e : l.takeWhile (fun x => bytesLt x n) = l.take i := by
  conv => lhs; rw [<- List.take_append_drop i l]
  rw [List.takeWhile_append_of_pos h1]
  have : (l.drop i).takeWhile (fun x => bytesLt x n) = [] := by
   rcases Nat.lt_or_ge i l.length with h | h
   ·rw [List.drop_eq_getElem_cons h, List.takeWhile_cons, h2 _ (List.getElem?_eq_getElem h)]; rfl
   ·rw [List.drop_of_length_le h]; rfl
  rw [this, List.append_nil]
 rw [plc, e, List.length_take]
 omega
theorem plc_le (l : List (List UInt8)) (n : List UInt8) : plc l n <= l.length := by
 unfold plc
 have h : l = l.takeWhile (fun x => bytesLt x n) ++ l.dropWhile (fun x => bytesLt x n) := List.takeWhile_append_dropWhile.symm
 conv => rhs; rw [h, List.length_append]
 omega
section
variable {α : Type} {key : α -> List UInt8}
theorem ins_plc (e : α) : ∀ l : List α, insK key e l = l.take (plc (l.map key) (key e)) ++ e :: l.drop (plc (l.map key) (key e)) := by
 intro l
 induction l with
 | nil => rfl
 | cons x l ih =>
  simp only [insK, plc, List.map_cons, List.takeWhile_cons]
  split
  ·rw [ih]
   simp only [plc, List.length_cons, List.take_succ_cons, List.drop_succ_cons, List.cons_append]
  ·rfl
theorem plc_mem {l : List α} (h : Srt key l) (n : List UInt8) : decide ((l.map key)[plc (l.map key) n]? = some n) = decide (n ∈ l.map key) := by
 induction l with
 | nil => simp [plc]
 | cons x l ih =>
  have h' := List.pairwise_cons.1 h
  simp only [plc, List.map_cons, List.takeWhile_cons]
  cases hb : bytesLt (key x) n with
  | true =>
   simp only [if_true, List.length_cons, List.getElem?_cons_succ, List.mem_cons]
   have := ih h'.2
   unfold plc at this
   rw [this]
   have hne : n ≠ key x := fun e => by rw [e, blt_ir] at hb; cases hb
   simp [hne]
  | false =>
   simp only [Bool.false_eq_true, if_false, List.length_nil, List.getElem?_cons_zero, Option.some.injEq, List.mem_cons]
   rw [decide_eq_decide]
   constructor
   ·intro e; exact .inl e.symm
   ·rintro (e | hm)
    ·exact e.symm
    ·exfalso
     obtain ⟨y, hy, rfl⟩ := List.mem_map.1 hm
     rw [h'.1 y hy] at hb; cases hb
end
end Go.VM
namespace Go.Proofs.YtifncjhjnjldmaaGreatDoor
open Go.AM Go.VM
def nmRows (l : List (List UInt8)) : List (List V) := (strsC l).map fun d => d.map V.d
theorem nm_fit {c i n : Nat} (h : c <= i) (h' : i < 4294967296) (hn : n = 1 := by rfl) : (c + n) * 16 <= limit /\ c + n <= limit := by
 unfold limit
 omega
theorem nm_grow {π : Nat -> Nat} (l : List (List UInt8)) (s : List UInt8) (n : Nat) (hn : n = l.length) : some (VObj.row 1 (List.take n (List.drop 0 (nmRows l)) ++ [[V.d (.str s)]])) = some (renO π (.row 1 (nmRows (l ++ [s])))) := by
 rw [nmRows, nmRows, renO_d, List.drop_zero, List.take_of_length_le (by simp [strsC, hn])]
 simp [strsC]
theorem nm_bd (k : Nat) (l : List (List UInt8)) : bdO k (.row 1 (nmRows l)) = true := bdO_d k 1 (strsC l)
theorem nm_end {xs : List FE} {n : Nat} (hn : n = xs.length) : VUpd 1 (.ret (.ms 1 1 0 n n)) [.row 7 (rows xs), .row 1 (nmRows (xs.map FE.n))] fun r σ' => σ' = [.row 7 (rows xs)] /\ ∃ b, r = .ret (.d (.ps b 0 1 n (strsC (xs.map FE.n)))) := by
 refine VUpd.freeze 1 (es := 1) (l := strsC (xs.map FE.n)) rfl (drows_d _) (fun _ => ⟨rfl, by simp [strsC, hn]⟩) (fun b => ?_)
 have e : fzCR 1 b (strsC (xs.map FE.n)) (.ret (.ms 1 1 0 n n)) = .ret (.d (.ps b (0 * 1) 1 n (strsC (xs.map FE.n)))) := by
  show VCR.ret (fzV 1 b _ (.ms 1 1 0 n n)) = _
  rw [fzV, nbeq_self]
  show VCR.ret (.d (.ps b (0 * 1) 1 n (((strsC (xs.map FE.n)).drop 0).take n))) = _
  rw [take_self _ _ (by simp [strsC, hn])]
 rw [e]
 refine VUpd.drop 1 rfl ?_ rfl (VUpd.now rfl ⟨rfl, b, rfl⟩)
 show (bdO 1 (.row 7 (rows xs)) && bdS 1 _ 0) = true
 rw [bdS_zero, Bool.and_true]
 exact bdO_d _ 7 (xs.map fe)
def fnfz : Nat -> Bool := fun t => Nat.beq t 18
set_option maxHeartbeats 4000000 in
theorem names_spec0 (xs : List FE) (n : Nat) (hn : n = xs.length) (hl : n < 4294967296) :
  VCall C intr0 F.modcertref05_fieldNames [.ms 0 7 0 n n] [.row 7 (rows xs)] fun r σ' => σ' = [.row 7 (rows xs)] /\ ∃ b, r = .ret (.d (.ps b 0 1 n (strsC (xs.map FE.n)))) := by
 refine VCall.b1 fnfz (fun _ => rfl) ?_
 refine VCode.arr (tm0 := [(0, .ms 0 7 0 n n), (3, .ms 1 1 0 0 0), (4, intV 0)]) (σ0 := [.row 7 (rows xs), .row 1 (nmRows ((xs.take 0).map FE.n))]) (.same ⟨rfl, rfl, rfl, trivial⟩ rfl) ?_
 refine VCode.iter (fun i : Nat => [(0, .ms 0 7 0 n n), (3, .ms 1 1 0 i i), (4, intV i)]) (fun i => [.row 7 (rows xs), .row 1 (nmRows ((xs.take i).map FE.n))]) (fun i => n - i) (fun i => i <= n) ?_ 0 (Nat.zero_le _)
 intro i hi
 refine vci (fun hc => ?_) (fun hc => ?_)
 ·have hi' : i < n := dlt hc
  have hx : xs[i]? = some xs[i] := List.getElem?_eq_getElem (by omega)
  have hg : nth (rows xs) (0 + i) = some ((fe xs[i]).map V.d) := by rw [Nat.zero_add, nth_eq, rows, List.getElem?_map, List.getElem?_map, hx]; rfl
  have ht : (xs.take (i + 1)).map FE.n = (xs.take i).map FE.n ++ [xs[i].n] := by rw [List.take_add_one, hx, List.map_append]; rfl
  have htl : i = ((xs.take i).map FE.n).length := by simp; omega
  generalize xs[i] = x at hg ht
  refine vnf rfl ?_
  refine vni hi' ?_
  refine exf _ hg ?_
  intro b
  refine vni rfl (vni ⟨rfl, rfl, by simp [nmRows, strsC]; omega, Nat.le_refl _, nm_fit (Nat.le_refl i) (by omega)⟩ ?_)
  refine vcn rfl (vcn (lit_full i) ?_)
  refine ⟨i + 1, hi', by show n - (i + 1) < n - i; omega, ?_, rfl, rfl⟩
  refine .pick 1 [0, 2] ⟨rfl, rfl, int_eq (wrap_succ (by omega)), trivial⟩ rfl rfl rfl rfl rfl (by decide) ⟨?_, ?_, ?_, nm_bd _ _, trivial⟩
  ·exact congrArg some (renO_d _ 7 (xs.map fe)).symm
  ·exact bdO_d _ 7 (xs.map fe)
  ·rw [ht]; exact nm_grow _ _ _ htl
 ·have hi' : n <= i := dnlt hc
  obtain rfl : i = n := by omega
  rw [List.take_of_length_le (by omega)]
  exact nm_end hn
theorem rplace_spec (l : List (List UInt8)) (s : List UInt8) (b cap : Nat) (hl : l.length < 4294967296) {σ : VS} {K : VCR -> VS -> Prop} (hk : K (.ret (.tup [intV (plc l s), boolV (decide (l[plc l s]? = some s))])) σ) :
  VCall C intr0 F.modcertref05_place [.d (.ps b 0 1 cap (strsC l)), strV s] σ K := by
 have hel : (strsC l).length = l.length := by simp [strsC]
 refine VCall.b0 nofz (fun _ => rfl) ?_
 refine VCode.less (tm0 := [(0, .d (.ps b 0 1 cap (strsC l))), (1, strV s), (6, intV 0)]) ⟨rfl, rfl, rfl, trivial⟩ ?_
 refine VCode.iter (fun i : Nat => [(0, .d (.ps b 0 1 cap (strsC l))), (1, strV s), (6, intV i)]) (fun _ => σ) (fun i => l.length - i) (fun i => i <= l.length /\ ∀ x ∈ l.take i, bytesLt x s = true) ?_ 0 ⟨Nat.zero_le _, by simp⟩
 rintro i ⟨hi, hp⟩
 refine vci (fun hc => ?_) (fun hc => ?_)
 ·have h : i < l.length := hel ▸ dlt hc
  have hgi : l[i]? = some l[i] := List.getElem?_eq_getElem h
  have hx : nth (strsC l) i = some [.str l[i]] := by rw [nth_eq, strsC, List.getElem?_map, hgi]; rfl
  repeat first | refine vcp hc ?_
  refine vnf rfl (exf _ hx ?_)
  repeat first | refine vcp hc ?_
  refine vci (fun h2 => ?_) (fun h2 => ?_)
  ·repeat first | refine vcp hc ?_ | refine vcp h2 ?_
   refine ⟨i + 1, ⟨h, ?_⟩, by show l.length - (i + 1) < l.length - i; omega, .same ⟨rfl, rfl, int_eq (wrap_succ (by omega)), trivial⟩ rfl, rfl, rfl⟩
   rw [List.take_add_one, hgi]
   intro x hx
   rcases List.mem_append.1 hx with hx | hx
   ·exact hp x hx
   ·simp at hx; subst hx; exact h2
  ·repeat first | refine vcp hc ?_ | refine vcn h2 ?_
   have hpl : plc l s = i := plc_stop hi hp (fun x hx => by rw [hgi] at hx; cases hx; exact h2)
   rw [hpl, hgi] at hk
   have hxx : decide (some l[i] = some s) = decide (l[i] = s) := decide_eq_decide.2 (by simp)
   rw [hxx] at hk
   repeat first | refine vcp hc ?_ | refine vnf rfl (exf _ hx ?_) | refine vni (by repeat' (first | exact trivial | exact rfl | refine vcp hc ?_ | refine vnf rfl (exf _ hx ?_) | refine vnf rfl ?_ | refine And.intro ?_ ?_)) ?_
   exact hk
 ·have h : l.length <= i := hel ▸ dnlt hc
  repeat first | refine vcn hc ?_
  have hpl : plc l s = i := plc_stop hi hp (fun x hx => by rw [List.getElem?_eq_none h] at hx; cases hx)
  rw [hpl, List.getElem?_eq_none h] at hk
  repeat first | refine vcn hc ?_ | refine vni (by repeat' (first | exact trivial | exact rfl | refine vcn hc ?_ | refine vnf rfl ?_ | refine And.intro ?_ ?_)) ?_
  exact hk
end Go.Proofs.YtifncjhjnjldmaaGreatDoor
