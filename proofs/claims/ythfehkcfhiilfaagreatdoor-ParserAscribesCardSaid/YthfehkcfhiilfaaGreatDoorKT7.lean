/- Proved: ParserAscribes returns true at every string, and leaves its argument as it was (the tied card). The condition is the row's own. The parts: contracts for every function that the law reaches, over a machine that is proved sound for the model (Am, Vm texts); 'awake' and IsPath at one path are run by the kernel. -/
import Derived.Test.YthfehkcfhiilfaaGreatDoorKT4
import Derived.Test.YthfehkcfhiilfaaGreatDoorKW
import Derived.Test.YthfehkcfhiilfaaGreatDoorKQc
import Derived.Test.YthfehkcfhiilfaaGreatDoorTie
import Derived.Test.YthfehkcfhiilfaaGreatDoorCards
import Derived.WalkKit
import Derived.ProofKit
import Derived.OpenShut
import Derived.LaidMore
import Derived.Lay
import Derived.SevenTiedAt
import Derived.Stop.Joined
namespace Go.Proofs.YthfehkcfhiilfaaGreatDoor set_option linter.unusedSimpArgs false set_option linter.unusedVariables false
open Go.AM
open Go.RowKit (Below)
theorem isTrue_inv {r : Option (CR × PanS × St)} (h : isTrue r = true) : ∃ ps st, r = some (.ret (.bool true), ps, st) := by
 unfold isTrue at h
 split at h
 ·exact ⟨_, _, rfl⟩
 ·cases h
theorem mixed : C.P.follows .mixedOrders = true := by kernel_rfl
theorem str_of {s : ByteArray} {l : List UInt8} (h : s.data.toList = l) : s = ⟨⟨l⟩⟩ := by
 obtain ⟨⟨x⟩⟩ := s
 have h : x = l := h
 rw [h]
theorem one_inv {ρ : Ren} {a : Value} (ha : flat a = true) {args' : Array Value} (h : VsRel ρ [a] args'.toList) : args' = #[a] := by
 obtain ⟨a', l', rfl, h1, h2⟩ := vs1 h
 cases h2
 rw [flat_inv ha h1]
theorem intr0_ok {w0 : World} (hm : HasMax w0) : IntrOk C w0 w0.heap.size intr0 := by
 intro f args v h
 unfold intr0 at h
 split at h
 ·split at h
  ·exact intrA_ok hm f args v h
  ·rename_i hf
   have hf := Nat.eq_of_beq_eq_true hf
   subst hf
   split at h
   ·rename_i s
    split at h
    ·rename_i hs
     cases h
     obtain rfl := str_of (of_decide_eq_true hs)
     refine ⟨rfl, fun ρ args' w hargs hb hN => ?_⟩
     have ha := one_inv rfl hargs
     subst ha
     obtain ⟨ps, st, hr⟩ := isTrue_inv path_run
     exact am_calls tok fok ext_ok mixed bodies (intrA_ok (hm.below hb)) hr rfl rfl
    ·cases h
   ·cases h
 ·rename_i hf
  have hf := Nat.eq_of_beq_eq_true hf
  subst hf
  split at h
  ·cases h
   refine ⟨rfl, fun ρ args' w hargs hb hN => ?_⟩
   have ha := nil_inv hargs
   subst ha
   obtain ⟨ps, st, hr⟩ := isTrue_inv awake_run
   exact am_calls tok fok ext_ok mixed bodies (intrA_ok (hm.below hb)) hr rfl rfl
  ·cases h
theorem walk (s : ByteArray) (w : World) (hm : HasMax w) :
  Calls Tryz.prog 3 #[.string s] w fun e w' => e = .returned (.bool true) /\ Below w.heap.size w w' := by
 obtain ⟨n, r, ps, st, ρ, σ, hr, rfl⟩ := Go.VM.VCall.run (args := [.str s.data.toList]) (law_spec0 s.data.toList) (fun Φ d hd => by
  obtain rfl := List.mem_singleton.1 hd
  exact .str _)
 exact am_calls tok fok ext_ok mixed bodies (intr0_ok hm) hr rfl rfl
section
variable {H : Type} {enc : TypeId × Value -> H}
theorem wrap_shaped {a : Assume} {D : Checked} {os : Os} {f : FuncId} {fn : Func} {s : ChangeSpec} {conds : List PathCond} {apart fresh handsOn again : Bool} {X : World -> Array Value -> Prop}
  (hX : ∀ (w w' : World) (args : Array Value), w.heap = w'.heap -> X w args -> X w' args)
  (own : ownKnob D.prog.godebug = none) (started : os.Started) (noInit : D.prog.inits.idxOf? f = none) (hfn : D.prog.funcs[f]? = some fn)
  (witness : ∃ (w : World) (tape : Tape) (i : Input), w.os = os /\ (w.forCall tape i).Shaped D.prog /\ i.vars = [] /\ Input.okWide D.prog (w.forCall tape i) .any w.heap.size f i /\
   ((s.pre enc D.prog fn conds apart (w.forCall tape i).memory i.args /\ X (w.forCall tape i).memory i.args) /\ sizedMet enc D.prog fn (OpenSpec.ofChange s) apart (w.forCall tape i).memory i.args) /\ a.holds D.prog (lone (Frame.enter D.prog f i.args .normal) [] (w.forCall tape i)))
  (contract : ∀ (W : World) (base : Nat) (args : Array Value) (ds gs : List (DataW H)) (before : List MemPlace),
   (∀ (j : Nat) t v, fn.params[j]? = some t -> args[j]? = some v -> Value.okWide D.prog W .any base t v) ->
   DataW.Whole enc D.prog fn.params.toList s.vars apart W args.toList ds gs before -> W.ShapedOpen D.prog ->
   Calls D.prog f args W fun e W' => ∃ v, e = .returned v /\ s.post enc D.prog fn apart fresh handsOn again W args v W') :
  ReturnsInHanded a D os f .any (fun w args => (s.pre enc D.prog fn conds apart w args /\ X w args) /\ sizedMet enc D.prog fn (OpenSpec.ofChange s) apart w args) (s.post enc D.prog fn apart fresh handsOn again) := by
 refine returnsInHanded_of_calls own started noInit witness ?_
 intro w tape i _ hsh _ hok hpre _
 obtain ⟨_, _, _, fn', hfn', _, _, _, _, hval⟩ := hok
 have e : fn' = fn := Option.some.inj (hfn'.symm.trans hfn)
 subst e
 obtain ⟨⟨⟨ds, gs, before, hw, _⟩, _⟩, _⟩ := hpre
 have hw' := DataW.Whole.of_heap (w' := w.forCall tape i) (by rfl) hw
 refine (contract (w.forCall tape i) w.heap.size i.args ds gs before hval hw' hsh).mono fun e W' ⟨v, he, hp⟩ => ?_
 subst he
 exact ChangeSpec.post_blind hp
end
namespace parserAscribes set_option linter.unusedSimpArgs false set_option linter.unusedVariables false
open Go.ChangeShapes Go.WideShapes Go.ChangeAt Go.RowKit
theorem own : ownKnob Tryz.prog.godebug = none := by kernel_rfl
noncomputable def laid : List (String × DataW Unit) := Rows.parserAscribesRow.laid
theorem hasMax_of {W : World} (h : W.ShapedOpen Tryz.prog) : HasMax W := by
 obtain ⟨m, hm⟩ := Tryz.laysM144.s1_3 W h
 refine ⟨?_, m, hm⟩
 cases hh : W.heap.size with
 | zero =>
  have : W.heap = #[] := Array.size_eq_zero_iff.1 hh
  exact absurd hm (by unfold World.cell?; simp [this])
 | succ n => omega
set_option maxRecDepth 100000 in
theorem lifted (os : Os) (started : os.Started) (H : Type) (enc : TypeId × Value -> H) :
  ReturnsInHanded {} Tryz.checked os 3 .any (fun w args => (Rows.parserAscribesSpec.pre enc Tryz.prog Tryz.f3 [] false w args /\ laidMetH Tryz.prog laid w) /\ sizedMet enc Tryz.prog Tryz.f3 (OpenSpec.ofChange Rows.parserAscribesSpec) false w args)
   (Rows.parserAscribesSpec.post enc Tryz.prog Tryz.f3 false true false false) := by
 refine wrap_shaped (D := Tryz.checked) (X := fun w _ => laidMetH Tryz.prog laid w) (fun _ _ _ hh h => h.of_heap hh) own started (by kernel_rfl) Tryz.func3
  (ChangeSpec.witness_shaped (enc := enc) (C := Tryz.checked) (os := os) (X := fun w _ => laidMetH Tryz.prog laid w) false (World.laidAll Tryz.prog os laid) #[.string ⟨#[]⟩] 8 (World.laidAll_os _ _ _)
   (World.shaped_of_ZipB (by kernel_rfl) (by kernel_rfl)) (by kernel_rfl) (by kernel_rfl) (by kernel_rfl)
   (by rw [MakeChecks.laidMetH_plain _ _ _ (by kernel_rfl)]; exact laidMet_laidAll _ (by kernel_rfl) (by kernel_rfl))) ?_
 intro W base args ds gs before hval0 hW hsh
 have hval : ∀ (j : Nat) t v, Tryz.f3.params[j]? = some t -> args[j]? = some v -> Value.okWide Tryz.prog W .any base t v := hval0
 have hW' := hW
 obtain ⟨p, q, hA0, hV, rfl, hfz, hnd⟩ := hW
 have hA : DataW.TrodAll enc Tryz.prog W 0 (fun _ => true) true Tryz.f3.params.toList args.toList ds p := hA0
 rw [Tryz.params3] at hA hval
 obtain ⟨v0, vs0, d0, ds0, p0, q0, hargs, rfl, rfl, h0, r0⟩ := trodAll_cons hA
 obtain ⟨rfl, rfl, rfl⟩ := trodAll_nil r0
 obtain rfl : args = #[v0] := by cases args; simp_all
 obtain ⟨rfl, rfl⟩ := trodVars_none hV
 obtain ⟨s, rfl, rfl, rfl, ws⟩ := Go.ChangeMaps.open_string Tryz.underlying9 (hval 0 9 v0 rfl rfl) h0
 clear hA0 hval0
 simp only [List.append_nil] at hW'
 refine (walk s W (hasMax_of hsh)).mono fun e W' ⟨he, hg⟩ => ?_
 subst he
 have e1 : Rows.parserAscribesSpec.fn H ([.lit (.string s.data.toList)] ++ []) = { results := [.lit (.bool true)], args := [.lit (.string s.data.toList)] } := by simp [Rows.parserAscribesSpec]
 refine ⟨_, rfl, _, _, _, [], [], [], hW', ?_, ?_, ?_, hg.frame _, fun h => by cases h⟩
 ·rw [e1]; exact trodAll_mk1 (shut_bool Tryz.underlying4 true)
 ·rw [e1]; exact trodAll_cons_mk (Go.ChangeMaps.shut_string Tryz.underlying9 ws) trodAll_mk0
 ·rw [e1]; rfl
theorem over : Rows.ParserAscribesSaid :=
 OpenClaim.holds_of_wide 3 Tryz.f3 rfl rfl rfl rfl rfl rfl rfl ⟨rfl, rfl, rfl, rfl, rfl⟩ rfl rfl rfl rfl rfl (by kernel_rfl) Tryz.func3 (by kernel_rfl)
  (of_decide_eq_true (by kernel_rfl)) (by unfold Func.isWrapper; first | (rw [if_pos (by decide +kernel)]; kernel_rfl) | (rw [if_neg (by decide +kernel)]; exact ⟨rfl, rfl⟩))
  (fun os started H enc _ => lifted os started H enc)
end parserAscribes
theorem parserAscribes_holds : Rows.ParserAscribesCardSaid :=
 Claim7.holds_tied_plain_at .later [] [.data, .data, .data, .data, .sentinel, .sentinel, .pinned] true (true, "c72bc75a8d2ace67efe28dc554585733f69c0657fec0c1276dc1138f2ccb9af7") true
  parserAscribes.over (fun _ h => by cases h) (by kernel_rfl) (fun _ h => by cases h) parserAscribes_row_tie rfl ⟨rfl, rfl⟩ (by kernel_rfl) rfl
  (fun f fn hf hfn => by
   obtain rfl : f = 3 := Option.some.inj ((show Tryz.prog.funcNamed "modcert/modcertlaw05.ParserAscribes" = some 3 by kernel_rfl).symm.trans hf) |>.symm
   obtain rfl : fn = Tryz.f3 := (Option.some.inj (Tryz.func3.symm.trans hfn)).symm
   exact ⟨by kernel_rfl, fun j t ht => by
    rw [Tryz.params3] at ht
    have hm : t ∈ [9] := by simpa using Array.mem_of_getElem? ht
    have hall : ([9].all fun u => !Tryz.prog.wantsStandIn u) = true := by kernel_rfl
    exact (show Tryz.prog.wantsStandIn t = false by simpa using List.all_eq_true.1 hall t hm)⟩)
  (by kernel_rfl)
#print axioms parserAscribes_holds
end Go.Proofs.YthfehkcfhiilfaaGreatDoor
