/- Proved: ParserOperators returns true at every two bytes, and leaves its arguments as they were (the tied card). Its runs (81 pairs of operators, and 'awake') are done by the kernel over the abstract machine of the Am texts, which is proved sound for the model. -/
import Derived.Test.YtaefjijnnbcjbaaGreatDoorW
import Derived.Test.YtaefjijnnbcjbaaGreatDoorR0
import Derived.Test.YtaefjijnnbcjbaaGreatDoorR1
import Derived.Test.YtaefjijnnbcjbaaGreatDoorR2
import Derived.Test.YtaefjijnnbcjbaaGreatDoorR3
import Derived.Test.YtaefjijnnbcjbaaGreatDoorR4
import Derived.Test.YtaefjijnnbcjbaaGreatDoorR5
import Derived.Test.YtaefjijnnbcjbaaGreatDoorR6
import Derived.Test.YtaefjijnnbcjbaaGreatDoorR7
import Derived.Test.YtaefjijnnbcjbaaGreatDoorR8
import Derived.Test.YtaefjijnnbcjbaaGreatDoorTie
import Derived.Test.YtaefjijnnbcjbaaGreatDoorCards
import Derived.WalkKit
import Derived.ProofKit
import Derived.OpenShut
import Derived.LaidMore
import Derived.Lay
import Derived.SevenTiedAt
import Derived.Stop.Joined
namespace Go.Proofs.YtaefjijnnbcjbaaGreatDoor
open Go.AM
open Go.RowKit (Below)

theorem isTrue_inv {r : Option (CR × PanS × St)} (h : isTrue r = true) : ∃ ps st, r = some (.ret (.bool true), ps, st) := by
  unfold isTrue at h
  split at h
  · exact ⟨_, _, rfl⟩
  · cases h

theorem mixed : C.P.follows .mixedOrders = true := by kernel_rfl

theorem intr1_ok {w0 : World} (hm : HasMax w0) : IntrOk C w0 w0.heap.size intr1 := by
  intro f args v h
  unfold intr1 at h
  split at h
  · exact intr0_ok hm f args v h
  · rename_i hf
    have hf := Nat.eq_of_beq_eq_true hf
    subst hf
    split at h
    · cases h
      refine ⟨rfl, fun ρ args' w hargs hb hN => ?_⟩
      have ha := nil_inv hargs
      subst ha
      obtain ⟨ps, st, hr⟩ := isTrue_inv awake_run
      exact am_calls tok fok ext_ok mixed bodies (intr0_ok (hm.below hb)) hr rfl rfl
    · cases h

theorem runs0 (k : Nat) (hk : k < 9) (A B x y : Value) : run5 A B x y 0 k = true := by
  match k, hk with
  | 0, _ => exact run0_0 A B x y
  | 1, _ => exact run0_1 A B x y
  | 2, _ => exact run0_2 A B x y
  | 3, _ => exact run0_3 A B x y
  | 4, _ => exact run0_4 A B x y
  | 5, _ => exact run0_5 A B x y
  | 6, _ => exact run0_6 A B x y
  | 7, _ => exact run0_7 A B x y
  | 8, _ => exact run0_8 A B x y
  | n + 9, h => omega
theorem runs1 (k : Nat) (hk : k < 9) (A B x y : Value) : run5 A B x y 1 k = true := by
  match k, hk with
  | 0, _ => exact run1_0 A B x y
  | 1, _ => exact run1_1 A B x y
  | 2, _ => exact run1_2 A B x y
  | 3, _ => exact run1_3 A B x y
  | 4, _ => exact run1_4 A B x y
  | 5, _ => exact run1_5 A B x y
  | 6, _ => exact run1_6 A B x y
  | 7, _ => exact run1_7 A B x y
  | 8, _ => exact run1_8 A B x y
  | n + 9, h => omega
theorem runs2 (k : Nat) (hk : k < 9) (A B x y : Value) : run5 A B x y 2 k = true := by
  match k, hk with
  | 0, _ => exact run2_0 A B x y
  | 1, _ => exact run2_1 A B x y
  | 2, _ => exact run2_2 A B x y
  | 3, _ => exact run2_3 A B x y
  | 4, _ => exact run2_4 A B x y
  | 5, _ => exact run2_5 A B x y
  | 6, _ => exact run2_6 A B x y
  | 7, _ => exact run2_7 A B x y
  | 8, _ => exact run2_8 A B x y
  | n + 9, h => omega
theorem runs3 (k : Nat) (hk : k < 9) (A B x y : Value) : run5 A B x y 3 k = true := by
  match k, hk with
  | 0, _ => exact run3_0 A B x y
  | 1, _ => exact run3_1 A B x y
  | 2, _ => exact run3_2 A B x y
  | 3, _ => exact run3_3 A B x y
  | 4, _ => exact run3_4 A B x y
  | 5, _ => exact run3_5 A B x y
  | 6, _ => exact run3_6 A B x y
  | 7, _ => exact run3_7 A B x y
  | 8, _ => exact run3_8 A B x y
  | n + 9, h => omega
theorem runs4 (k : Nat) (hk : k < 9) (A B x y : Value) : run5 A B x y 4 k = true := by
  match k, hk with
  | 0, _ => exact run4_0 A B x y
  | 1, _ => exact run4_1 A B x y
  | 2, _ => exact run4_2 A B x y
  | 3, _ => exact run4_3 A B x y
  | 4, _ => exact run4_4 A B x y
  | 5, _ => exact run4_5 A B x y
  | 6, _ => exact run4_6 A B x y
  | 7, _ => exact run4_7 A B x y
  | 8, _ => exact run4_8 A B x y
  | n + 9, h => omega
theorem runs5 (k : Nat) (hk : k < 9) (A B x y : Value) : run5 A B x y 5 k = true := by
  match k, hk with
  | 0, _ => exact run5_0 A B x y
  | 1, _ => exact run5_1 A B x y
  | 2, _ => exact run5_2 A B x y
  | 3, _ => exact run5_3 A B x y
  | 4, _ => exact run5_4 A B x y
  | 5, _ => exact run5_5 A B x y
  | 6, _ => exact run5_6 A B x y
  | 7, _ => exact run5_7 A B x y
  | 8, _ => exact run5_8 A B x y
  | n + 9, h => omega
theorem runs6 (k : Nat) (hk : k < 9) (A B x y : Value) : run5 A B x y 6 k = true := by
  match k, hk with
  | 0, _ => exact run6_0 A B x y
  | 1, _ => exact run6_1 A B x y
  | 2, _ => exact run6_2 A B x y
  | 3, _ => exact run6_3 A B x y
  | 4, _ => exact run6_4 A B x y
  | 5, _ => exact run6_5 A B x y
  | 6, _ => exact run6_6 A B x y
  | 7, _ => exact run6_7 A B x y
  | 8, _ => exact run6_8 A B x y
  | n + 9, h => omega
theorem runs7 (k : Nat) (hk : k < 9) (A B x y : Value) : run5 A B x y 7 k = true := by
  match k, hk with
  | 0, _ => exact run7_0 A B x y
  | 1, _ => exact run7_1 A B x y
  | 2, _ => exact run7_2 A B x y
  | 3, _ => exact run7_3 A B x y
  | 4, _ => exact run7_4 A B x y
  | 5, _ => exact run7_5 A B x y
  | 6, _ => exact run7_6 A B x y
  | 7, _ => exact run7_7 A B x y
  | 8, _ => exact run7_8 A B x y
  | n + 9, h => omega
theorem runs8 (k : Nat) (hk : k < 9) (A B x y : Value) : run5 A B x y 8 k = true := by
  match k, hk with
  | 0, _ => exact run8_0 A B x y
  | 1, _ => exact run8_1 A B x y
  | 2, _ => exact run8_2 A B x y
  | 3, _ => exact run8_3 A B x y
  | 4, _ => exact run8_4 A B x y
  | 5, _ => exact run8_5 A B x y
  | 6, _ => exact run8_6 A B x y
  | 7, _ => exact run8_7 A B x y
  | 8, _ => exact run8_8 A B x y
  | n + 9, h => omega

theorem runs (i k : Nat) (hi : i < 9) (hk : k < 9) (A B x y : Value) : run5 A B x y i k = true := by
  match i, hi with
  | 0, _ => exact runs0 k hk A B x y
  | 1, _ => exact runs1 k hk A B x y
  | 2, _ => exact runs2 k hk A B x y
  | 3, _ => exact runs3 k hk A B x y
  | 4, _ => exact runs4 k hk A B x y
  | 5, _ => exact runs5 k hk A B x y
  | 6, _ => exact runs6 k hk A B x y
  | 7, _ => exact runs7 k hk A B x y
  | 8, _ => exact runs8 k hk A B x y
  | n + 9, h => omega

theorem call3 (A B : Value) : callF C rc1 3 [A, B] false .none st0 = fin3 (code C rc1 fc3 c0 ⟨tm0 A B, []⟩ .none st0) := by
  have hff : C.ff.get 3 = some (mkFI Tryz.f3) := by kernel_rfl
  have hle : Nat.ble [A, B].length (mkFI Tryz.f3).nt = true := by kernel_rfl
  unfold callF
  simp only [hff, hle]
  have key : ∀ r : Option (Ex × Fr × PanS × St), (match r with
      | some (.norm, fr, ps, st) => finish C rc1 (mkFI Tryz.f3) .returning fr ps st
      | some (.ret, fr, ps, st) => finish C rc1 (mkFI Tryz.f3) .returning fr ps st
      | some (.panic v, fr, ps, st) => finish C rc1 (mkFI Tryz.f3) (.panicking v) fr ps st
      | _ => none) = fin3 r := by
    intro r
    rfl
  exact key _

theorem run_all {a b : Nat} (ha : a < 256) (hb : b < 256) : isTrue ((recN C intr1 61).call 3 [.int .u8 (.ofNat a), .int .u8 (.ofNat b)] false .none st0) = true := by
  have h := body_run ha hb (fun A B x y => runs (a % 9) (b % 9) (Nat.mod_lt _ (by decide)) (Nat.mod_lt _ (by decide)) A B x y)
  rw [← call3] at h
  exact h

theorem byte_of {x : Int} (h : (Lit.int .u8 x).wf = true) : ∃ a : Nat, a < 256 ∧ x = .ofNat a := by
  have h2 : decide (IntKind.u8.min ≤ x) = true ∧ decide (x ≤ IntKind.u8.max) = true := by
    rw [← Bool.and_eq_true]; exact h
  have h3 : (0 : Int) ≤ x := of_decide_eq_true h2.1
  have h4 : x ≤ 255 := of_decide_eq_true h2.2
  refine ⟨x.toNat, by omega, ?_⟩
  show x = ((x.toNat : Nat) : Int)
  omega

theorem walk (a0 a1 : Int) (w0 : (Lit.int .u8 a0).wf = true) (w1 : (Lit.int .u8 a1).wf = true) (w : World) (hm : HasMax w) :
    Calls Tryz.prog 3 #[.int .u8 a0, .int .u8 a1] w fun e w' => e = .returned (.bool true) ∧ Below w.heap.size w w' := by
  obtain ⟨a, ha, rfl⟩ := byte_of w0
  obtain ⟨b, hb, rfl⟩ := byte_of w1
  obtain ⟨ps, st, hr⟩ := isTrue_inv (run_all ha hb)
  exact am_calls tok fok ext_ok mixed bodies (intr1_ok hm) hr rfl rfl

section
variable {H : Type} {enc : TypeId × Value → H}
theorem wrap_shaped {a : Assume} {D : Checked} {os : Os} {f : FuncId} {fn : Func} {s : ChangeSpec} {conds : List PathCond} {apart fresh handsOn again : Bool} {X : World → Array Value → Prop}
    (hX : ∀ (w w' : World) (args : Array Value), w.heap = w'.heap → X w args → X w' args)
    (own : ownKnob D.prog.godebug = none) (started : os.Started) (noInit : D.prog.inits.idxOf? f = none) (hfn : D.prog.funcs[f]? = some fn)
    (witness : ∃ (w : World) (tape : Tape) (i : Input), w.os = os ∧ (w.forCall tape i).Shaped D.prog ∧ i.vars = [] ∧ Input.okWide D.prog (w.forCall tape i) .any w.heap.size f i ∧
      ((s.pre enc D.prog fn conds apart (w.forCall tape i).memory i.args ∧ X (w.forCall tape i).memory i.args) ∧ sizedMet enc D.prog fn (OpenSpec.ofChange s) apart (w.forCall tape i).memory i.args) ∧ a.holds D.prog (lone (Frame.enter D.prog f i.args .normal) [] (w.forCall tape i)))
    (contract : ∀ (W : World) (base : Nat) (args : Array Value) (ds gs : List (DataW H)) (before : List MemPlace),
      (∀ (j : Nat) t v, fn.params[j]? = some t → args[j]? = some v → Value.okWide D.prog W .any base t v) →
      DataW.Whole enc D.prog fn.params.toList s.vars apart W args.toList ds gs before → W.ShapedOpen D.prog →
      Calls D.prog f args W fun e W' => ∃ v, e = .returned v ∧ s.post enc D.prog fn apart fresh handsOn again W args v W') :
    ReturnsInHanded a D os f .any (fun w args => (s.pre enc D.prog fn conds apart w args ∧ X w args) ∧ sizedMet enc D.prog fn (OpenSpec.ofChange s) apart w args) (s.post enc D.prog fn apart fresh handsOn again) := by
  refine returnsInHanded_of_calls own started noInit witness ?_
  intro w tape i _ hsh _ hok hpre _
  obtain ⟨_, _, _, fn', hfn', _, _, _, _, hval⟩ := hok
  have e : fn' = fn := Option.some.inj (hfn'.symm.trans hfn)
  subst e
  obtain ⟨⟨⟨ds, gs, before, hw, _⟩, _⟩, _⟩ := hpre
  have hw' := DataW.Whole.of_heap (w' := w.forCall tape i) (by rfl) hw
  refine (contract (w.forCall tape i) w.heap.size i.args ds gs before hval hw' hsh).mono fun e W' ⟨v, he, hp⟩ => ?_
  subst he
  exact ChangeSpec.post_blind hp
end

namespace parserOperators
open Go.ChangeShapes Go.WideShapes Go.ChangeAt Go.RowKit

theorem own : ownKnob Tryz.prog.godebug = none := by kernel_rfl
noncomputable def laid : List (String × DataW Unit) := Rows.parserOperatorsRow.laid

theorem hasMax_of {W : World} (h : W.ShapedOpen Tryz.prog) : HasMax W := by
  obtain ⟨m, hm⟩ := Tryz.laysM144.s1_3 W h
  refine ⟨?_, m, hm⟩
  cases hh : W.heap.size with
  | zero =>
    have : W.heap = #[] := Array.size_eq_zero_iff.1 hh
    exact absurd hm (by unfold World.cell?; simp [this])
  | succ n => omega

set_option maxRecDepth 100000 in
theorem lifted (os : Os) (started : os.Started) (H : Type) (enc : TypeId × Value → H) :
    ReturnsInHanded {} Tryz.checked os 3 .any (fun w args => (Rows.parserOperatorsSpec.pre enc Tryz.prog Tryz.f3 [] false w args ∧ laidMetH Tryz.prog laid w) ∧ sizedMet enc Tryz.prog Tryz.f3 (OpenSpec.ofChange Rows.parserOperatorsSpec) false w args)
      (Rows.parserOperatorsSpec.post enc Tryz.prog Tryz.f3 false true false false) := by
  refine wrap_shaped (D := Tryz.checked) (X := fun w _ => laidMetH Tryz.prog laid w) (fun _ _ _ hh h => h.of_heap hh) own started (by kernel_rfl) Tryz.func3
    (ChangeSpec.witness_shaped (enc := enc) (C := Tryz.checked) (os := os) (X := fun w _ => laidMetH Tryz.prog laid w) false (World.laidAll Tryz.prog os laid) #[.int .u8 0, .int .u8 0] 8 (World.laidAll_os _ _ _)
      (World.shaped_of_ZipB (by kernel_rfl) (by kernel_rfl)) (by kernel_rfl) (by kernel_rfl) (by kernel_rfl)
      (by rw [MakeChecks.laidMetH_plain _ _ _ (by kernel_rfl)]; exact laidMet_laidAll _ (by kernel_rfl) (by kernel_rfl))) ?_
  intro W base args ds gs before hval0 hW hsh
  have hval : ∀ (j : Nat) t v, Tryz.f3.params[j]? = some t → args[j]? = some v → Value.okWide Tryz.prog W .any base t v := hval0
  have hW' := hW
  obtain ⟨p, q, hA0, hV, rfl, hfz, hnd⟩ := hW
  have hA : DataW.TrodAll enc Tryz.prog W 0 (fun _ => true) true Tryz.f3.params.toList args.toList ds p := hA0
  rw [Tryz.params3] at hA hval
  obtain ⟨v0, vs0, d0, ds0, p0, q0, hargs, rfl, rfl, h0, r0⟩ := trodAll_cons hA
  obtain ⟨v1, vs1, d1, ds1, p1, q1, rfl, rfl, rfl, h1, r1⟩ := trodAll_cons r0
  obtain ⟨rfl, rfl, rfl⟩ := trodAll_nil r1
  obtain rfl : args = #[v0, v1] := by cases args; simp_all
  obtain ⟨rfl, rfl⟩ := trodVars_none hV
  obtain ⟨a0, rfl, rfl, rfl, w0⟩ := open_int Tryz.underlying5 (hval 0 5 v0 rfl rfl) h0
  obtain ⟨a1, rfl, rfl, rfl, w1⟩ := open_int Tryz.underlying5 (hval 1 5 v1 rfl rfl) h1
  clear hA0 hval0
  simp only [List.append_nil] at hW'
  refine (walk a0 a1 w0 w1 W (hasMax_of hsh)).mono fun e W' ⟨he, hg⟩ => ?_
  subst he
  have e1 : Rows.parserOperatorsSpec.fn H ([.lit (.int .u8 a0), .lit (.int .u8 a1)] ++ []) = { results := [.lit (.bool true)], args := [.lit (.int .u8 a0), .lit (.int .u8 a1)] } := by simp [Rows.parserOperatorsSpec]
  refine ⟨_, rfl, _, _, _, [], [], [], hW', ?_, ?_, ?_, hg.frame _, fun h => by cases h⟩
  · rw [e1]; exact trodAll_mk1 (shut_bool Tryz.underlying4 true)
  · rw [e1]; exact trodAll_cons_mk (shut_int Tryz.underlying5 w0) (trodAll_cons_mk (shut_int Tryz.underlying5 w1) trodAll_mk0)
  · rw [e1]; rfl

theorem over : Rows.ParserOperatorsSaid :=
  OpenClaim.holds_of_wide 3 Tryz.f3 rfl rfl rfl rfl rfl rfl rfl ⟨rfl, rfl, rfl, rfl, rfl⟩ rfl rfl rfl rfl rfl (by kernel_rfl) Tryz.func3 (by kernel_rfl)
    (of_decide_eq_true (by kernel_rfl)) (by unfold Func.isWrapper; first | (rw [if_pos (by decide +kernel)]; kernel_rfl) | (rw [if_neg (by decide +kernel)]; exact ⟨rfl, rfl⟩))
    (fun os started H enc _ => lifted os started H enc)

end parserOperators

/-- the statement -/
theorem parserOperators_holds : Rows.ParserOperatorsCardSaid :=
  Claim7.holds_tied_plain_at .later [] [.data, .data, .data, .data, .sentinel, .sentinel, .pinned] true (true, "e624acda7a129ccf6fe7d318ddaa5a50744aea0b46063d3b6f38f54707ec76e3") true
    parserOperators.over (fun _ h => by cases h) (by kernel_rfl) (fun _ h => by cases h) parserOperators_row_tie rfl ⟨rfl, rfl⟩ (by kernel_rfl) rfl
    (fun f fn hf hfn => by
      obtain rfl : f = 3 := Option.some.inj ((show Tryz.prog.funcNamed "modcert/modcertlaw05.ParserOperators" = some 3 by kernel_rfl).symm.trans hf) |>.symm
      obtain rfl : fn = Tryz.f3 := (Option.some.inj (Tryz.func3.symm.trans hfn)).symm
      exact ⟨by kernel_rfl, fun j t ht => by
        rw [Tryz.params3] at ht
        have hm : t ∈ [5, 5] := by simpa using Array.mem_of_getElem? ht
        have hall : ([5, 5].all fun u => !Tryz.prog.wantsStandIn u) = true := by kernel_rfl
        exact (show Tryz.prog.wantsStandIn t = false by simpa using List.all_eq_true.1 hall t hm)⟩)
    (by kernel_rfl)
#print axioms parserOperators_holds
end Go.Proofs.YtaefjijnnbcjbaaGreatDoor
