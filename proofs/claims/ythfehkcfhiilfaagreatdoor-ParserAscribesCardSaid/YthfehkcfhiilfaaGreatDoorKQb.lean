/- Contracts: reading expressions and the module at known tokens; their form. -/
import Derived.Test.YthfehkcfhiilfaaGreatDoorKRa
import Derived.Test.YthfehkcfhiilfaaGreatDoorKRe
namespace Go.Proofs.YthfehkcfhiilfaaGreatDoor set_option linter.unusedSimpArgs false set_option linter.unusedVariables false
open Go.AM Go.VM
def exV (k n : Nat) (ty kids : D) : List V := [intV k, strV [], strV [], strV [], intV n, .d ty, .d .nils, .d kids]
def oneD : List D := [.int .i64 (Int.ofNat 0), .str [], .str [], .str [], .int .i64 (Int.ofNat 1), .nils, .nils, .nils]
structure ExOk (f : FuncId) (R : Rd) (p q k n : Nat) (P : D -> D -> Prop) : Prop where
 call : ∀ (i : Nat) (σ : VS) (K : VCR -> VS -> Prop), nth σ i = some (rdO R p) -> (∀ ty kids, P ty kids -> K (.ret (.agg (exV k n ty kids))) (σ.set i (rdO R q))) -> VCall C intr0 f [.bp i 0] σ K
def ExR (R : Rd) (q k n : Nat) (P : D -> D -> Prop) (r : VCR) (cs : List V) : Prop := cs = rdC R q /\ ∃ ty kids, P ty kids /\ r = .ret (.agg (exV k n ty kids))
theorem ExOk.of {f : FuncId} {R : Rd} {p q k n : Nat} {P : D -> D -> Prop} (h : VCall C intr0 f [.bp 0 0] [rdO R p] fun r σ' => ∃ cs', σ' = [.box cs'] /\ closedCR r = true /\ bdL 0 cs' = true /\ ExR R q k n P r cs') : ExOk f R p q k n P :=
 ⟨fun i σ K hσ hk => VCall.one (args0 := [.bp 0 0]) h i hσ rfl rfl rfl fun r cs' h => by
  obtain ⟨rfl, ty, kids, hp, rfl⟩ := h
  exact hk ty kids hp⟩
theorem skip_no {R : Rd} (w : R.Wf) {p : Nat} (hp : p < R.ts.length) {s : List UInt8} (h : isTok (R.tok p) s = false) (i : Nat) {σ : VS} {K : VCR -> VS -> Prop} (hσ : nth σ i = some (rdO R p)) (hk : K (.ret (boolV false)) σ) : VCall C intr0 F.reader_skip [.bp i 0, strV s] σ K :=
 skip_spec R p (R.tok p) s (Rd.tok_some hp) (Nat.lt_trans hp w.len) i hσ (fun h' => by rw [h] at h'; cases h') fun _ => hk
theorem skip_yes {R : Rd} (w : R.Wf) {p : Nat} (hp : p < R.ts.length) {s : List UInt8} (h : isTok (R.tok p) s = true) (i : Nat) {σ : VS} {K : VCR -> VS -> Prop} (hσ : nth σ i = some (rdO R p)) (hk : K (.ret (boolV true)) (σ.set i (rdO R (p + 1)))) : VCall C intr0 F.reader_skip [.bp i 0, strV s] σ K :=
 skip_spec R p (R.tok p) s (Rd.tok_some hp) (Nat.lt_trans hp w.len) i hσ (fun _ => hk) fun h' => by rw [h] at h'; cases h'
def opsL : List (List UInt8) := [[46], [40], [42], [43], [45], [43, 43], [61, 61], [61, 61, 61], [60], [97, 110, 100], [111, 114]]
def NoOp (t : Tok) : Bool := opsL.all fun s => !isTok t s
theorem NoOp.no {t : Tok} (h : NoOp t = true) {s : List UInt8} (hs : s ∈ opsL) : isTok t s = false := by
 have := List.all_eq_true.1 h s hs
 simpa using this
set_option maxHeartbeats 4000000 in
theorem index_is {R : Rd} (w : R.Wf) {q : Nat} (hq : q < R.ts.length) (ops : List (List UInt8)) (ho : ops.length < 4294967296) (hno : ∀ s ∈ ops, isTok (R.tok q) s = false) (i b cap : Nat) {σ : VS} {K : VCR -> VS -> Prop} (hσ : nth σ i = some (rdO R q)) (hk : K (.ret (.d (.int .i64 (-1)))) σ) :
  VCall C intr0 F.slices_IndexFunc_string [.d (.ps b 0 1 cap (strsD ops)), .fn F.reader_is [.bp i 0] []] σ K := by
 refine VCall.b0 nofz (fun _ => rfl) ?_
 refine VCode.less (tm0 := [(0, .d (.ps b 0 1 cap (strsD ops))), (1, .fn F.reader_is [.bp i 0] []), (7, intV ops.length), (8, intV 0)]) ⟨rfl, rfl, int_eq (by simp [strsD]), rfl, trivial⟩ ?_
 refine VCode.iter (fun j : Nat => [(0, .d (.ps b 0 1 cap (strsD ops))), (1, .fn F.reader_is [.bp i 0] []), (7, intV ops.length), (8, intV j)]) (fun _ => σ) (fun j => ops.length - j) (fun j => j <= ops.length) ?_ 0 (Nat.zero_le _)
 intro j hj
 refine vci (fun hc => ?_) (fun hc => ?_)
 ·have hj' : j < ops.length := dlt hc
  refine vnf rfl ?_
  refine exf [.str ops[j]] (by rw [nth_eq, strsD, List.getElem?_map, List.getElem?_eq_getElem hj']; rfl) ?_
  refine is_spec R q (R.tok q) ops[j] (Rd.tok_some hq) i hσ ?_
  rw [hno _ (List.getElem_mem hj')]
  refine ⟨j + 1, hj', by show ops.length - (j + 1) < ops.length - j; omega, .same ⟨rfl, rfl, rfl, int_eq (wrap_succ (by omega)), trivial⟩ rfl, rfl, rfl⟩
 ·exact hk
set_option maxHeartbeats 4000000 in
theorem binary_spec {g : Nat} (hgf : (C.ff.get g).isSome = true) (ops : List (List UInt8)) (ho : ops.length < 4294967296) {R : Rd} (w : R.Wf) {p q k n : Nat} {P : D -> D -> Prop} (hg : ExOk g R p q k n P) (hq : q < R.ts.length) (hno : ∀ s ∈ ops, isTok (R.tok q) s = false) (i b cap : Nat) {σ : VS} {K : VCR -> VS -> Prop} (hσ : nth σ i = some (rdO R p))
  (hk : ∀ ty kids, P ty kids -> K (.ret (.agg (exV k n ty kids))) (σ.set i (rdO R q))) : VCall C intr0 F.reader_binary [.bp i 0, .fn g [.bp i 0] [], .d (.ps b 0 1 cap (strsD ops))] σ K := by
 refine VCall.one (args0 := [.bp 0 0, .fn g [.bp 0 0] [], .d (.ps b 0 1 cap (strsD ops))]) (P := ExR R q k n P) ?_ i hσ rfl rfl rfl (fun r cs' h => by
  obtain ⟨rfl, ty, kids, hp, rfl⟩ := h
  exact hk ty kids hp)
 refine VCall.b1 nofz (fun _ => rfl) ?_
 refine vcp hgf ?_
 refine hg.call 0 _ _ rfl (fun ty kids hp => ?_)
 refine VCode.loop ?_
 refine index_is w hq ops ho hno 0 b cap rfl ?_
 refine VUpd.drop 1 ?_ ?_ ?_ ?_
 iterate 3 exact rfl
 refine VUpd.now rfl ⟨rdC R q, rfl, rfl, rfl, rfl, ty, kids, hp, rfl⟩
def opfz : Nat -> Bool := fun t => Nat.beq t 6
set_option maxHeartbeats 4000000 in
theorem mul_ok {R : Rd} (w : R.Wf) {p q k n : Nat} {P : D -> D -> Prop} (hg : ExOk F.reader_unary R p q k n P) (hq : q < R.ts.length) (ho : NoOp (R.tok q) = true) : ExOk F.reader_mul R p q k n P := by
 refine ExOk.of ?_
 refine VCall.b1 opfz (fun _ => rfl) ?_
 intro b
 refine binary_spec rfl [[42]] (by decide) w hg hq (fun s hs => NoOp.no ho (by simp at hs; subst hs; decide)) 0 b _ rfl (fun ty kids hp => ?_)
 refine VUpd.drop 1 ?_ ?_ ?_ ?_
 iterate 3 exact rfl
 refine VUpd.now rfl ⟨rdC R q, rfl, rfl, rfl, rfl, ty, kids, hp, rfl⟩
set_option maxHeartbeats 4000000 in
theorem add_ok {R : Rd} (w : R.Wf) {p q k n : Nat} {P : D -> D -> Prop} (hg : ExOk F.reader_mul R p q k n P) (hq : q < R.ts.length) (ho : NoOp (R.tok q) = true) : ExOk F.reader_add R p q k n P := by
 refine ExOk.of ?_
 refine VCall.b1 opfz (fun _ => rfl) ?_
 intro b
 refine binary_spec rfl [[43], [45], [43, 43]] (by decide) w hg hq (fun s hs => NoOp.no ho (by simp at hs; rcases hs with rfl | rfl | rfl <;> decide)) 0 b _ rfl (fun ty kids hp => ?_)
 refine VUpd.drop 1 ?_ ?_ ?_ ?_
 iterate 3 exact rfl
 refine VUpd.now rfl ⟨rdC R q, rfl, rfl, rfl, rfl, ty, kids, hp, rfl⟩
set_option maxHeartbeats 4000000 in
theorem and_ok {R : Rd} (w : R.Wf) {p q k n : Nat} {P : D -> D -> Prop} (hg : ExOk F.reader_not R p q k n P) (hq : q < R.ts.length) (ho : NoOp (R.tok q) = true) : ExOk F.reader_and R p q k n P := by
 refine ExOk.of ?_
 refine VCall.b1 opfz (fun _ => rfl) ?_
 intro b
 refine binary_spec rfl [[97, 110, 100]] (by decide) w hg hq (fun s hs => NoOp.no ho (by simp at hs; subst hs; decide)) 0 b _ rfl (fun ty kids hp => ?_)
 refine VUpd.drop 1 ?_ ?_ ?_ ?_
 iterate 3 exact rfl
 refine VUpd.now rfl ⟨rdC R q, rfl, rfl, rfl, rfl, ty, kids, hp, rfl⟩
set_option maxHeartbeats 4000000 in
theorem or_ok {R : Rd} (w : R.Wf) {p q k n : Nat} {P : D -> D -> Prop} (hg : ExOk F.reader_and R p q k n P) (hq : q < R.ts.length) (ho : NoOp (R.tok q) = true) : ExOk F.reader_or R p q k n P := by
 refine ExOk.of ?_
 refine VCall.b1 opfz (fun _ => rfl) ?_
 intro b
 refine binary_spec rfl [[111, 114]] (by decide) w hg hq (fun s hs => NoOp.no ho (by simp at hs; subst hs; decide)) 0 b _ rfl (fun ty kids hp => ?_)
 refine VUpd.drop 1 ?_ ?_ ?_ ?_
 iterate 3 exact rfl
 refine VUpd.now rfl ⟨rdC R q, rfl, rfl, rfl, rfl, ty, kids, hp, rfl⟩
set_option maxHeartbeats 4000000 in
theorem not_ok {R : Rd} (w : R.Wf) {p q k n : Nat} {P : D -> D -> Prop} (hg : ExOk F.reader_add R p q k n P) (hp : p < R.ts.length) (h1 : isTok (R.tok p) [110, 111, 116] = false) (hq : q < R.ts.length) (ho : NoOp (R.tok q) = true) : ExOk F.reader_not R p q k n P := by
 refine ExOk.of ?_
 refine VCall.b1 nofz (fun _ => rfl) ?_
 refine skip_no w hp h1 0 rfl ?_
 refine hg.call 0 _ _ rfl (fun ty kids hP => ?_)
 refine VCode.loop ?_
 refine vnf rfl ?_
 refine vni (by decide) ?_
 refine skip_no w hq (NoOp.no ho (s := [61, 61]) (by decide)) 0 rfl ?_
 refine VCode.loop ?_
 refine vnf rfl ?_
 refine vni (by decide) ?_
 refine skip_no w hq (NoOp.no ho (s := [61, 61, 61]) (by decide)) 0 rfl ?_
 refine VCode.loop ?_
 refine vnf rfl ?_
 refine vni (by decide) ?_
 refine skip_no w hq (NoOp.no ho (s := [60]) (by decide)) 0 rfl ?_
 refine VCode.loop ?_
 refine VUpd.drop 1 ?_ ?_ ?_ ?_
 iterate 3 exact rfl
 refine VUpd.now rfl ⟨rdC R q, rfl, rfl, rfl, rfl, ty, kids, hP, rfl⟩
set_option maxHeartbeats 4000000 in
theorem unary_ok {R : Rd} (w : R.Wf) {p q k n : Nat} {P : D -> D -> Prop} (hg : ExOk F.reader_postfix R p q k n P) (hp : p < R.ts.length) (h1 : isTok (R.tok p) [108, 101, 110, 103, 116, 104] = false) (h2 : isTok (R.tok p) [45] = false) : ExOk F.reader_unary R p q k n P := by
 refine ExOk.of ?_
 refine VCall.b1 nofz (fun _ => rfl) ?_
 refine skip_no w hp h1 0 rfl ?_
 refine skip_no w hp h2 0 rfl ?_
 refine hg.call 0 _ _ rfl (fun ty kids hP => ?_)
 refine VUpd.drop 1 ?_ ?_ ?_ ?_
 iterate 3 exact rfl
 refine VUpd.now rfl ⟨rdC R q, rfl, rfl, rfl, rfl, ty, kids, hP, rfl⟩
set_option maxHeartbeats 4000000 in
theorem postfix_ok {R : Rd} (w : R.Wf) {p q k n : Nat} {P : D -> D -> Prop} (hg : ExOk F.reader_primary R p q k n P) (hq : q < R.ts.length) (ho : NoOp (R.tok q) = true) : ExOk F.reader_postfix R p q k n P := by
 refine ExOk.of ?_
 refine VCall.b1 nofz (fun _ => rfl) ?_
 refine hg.call 0 _ _ rfl (fun ty kids hP => ?_)
 refine VCode.loop ?_
 refine skip_no w hq (NoOp.no ho (s := [46]) (by decide)) 0 rfl ?_
 refine skip_no w hq (NoOp.no ho (s := [40]) (by decide)) 0 rfl ?_
 refine VUpd.drop 1 ?_ ?_ ?_ ?_
 iterate 3 exact rfl
 refine VUpd.now rfl ⟨rdC R q, rfl, rfl, rfl, rfl, ty, kids, hP, rfl⟩
set_option maxHeartbeats 4000000 in
theorem expr_ok0 {R : Rd} {p q k n : Nat} {P : D -> D -> Prop} (hg : ExOk F.reader_or R p q k n P) (hp : p < R.ts.length) (h5 : (R.tok p).kind ≠ 5) : ExOk F.reader_expr R p q k n P := by
 refine ExOk.of ?_
 refine VCall.b1 nofz (fun _ => rfl) ?_
 refine exf none rfl ?_
 refine exf none rfl ?_
 refine exf none rfl ?_
 refine exf none rfl ?_
 refine exf none rfl ?_
 refine peek_spec R p (R.tok p) (Rd.tok_some hp) 0 rfl ?_
 refine vcn (decide_eq_false (fun h => h5 (by have h : Int.ofNat (R.tok p).kind = 5 := h; simp only [Int.ofNat_eq_natCast] at h; omega))) ?_
 refine hg.call 0 _ _ rfl (fun ty kids hP => ?_)
 refine VUpd.drop 1 ?_ ?_ ?_ ?_
 iterate 3 exact rfl
 refine VUpd.now rfl ⟨rdC R q, rfl, rfl, rfl, rfl, ty, kids, hP, rfl⟩
def StartOk (t : Tok) : Bool := !decide (t.kind = 5) && !isTok t [110, 111, 116] && !isTok t [108, 101, 110, 103, 116, 104] && !isTok t [45]
theorem expr_ok {R : Rd} (w : R.Wf) {p q k n : Nat} {P : D -> D -> Prop} (hp : p < R.ts.length) (hs : StartOk (R.tok p) = true) (hq : q < R.ts.length) (ho : NoOp (R.tok q) = true) (hg : ExOk F.reader_primary R p q k n P) : ExOk F.reader_expr R p q k n P := by
 simp only [StartOk, Bool.and_eq_true, Bool.not_eq_true', decide_eq_false_iff_not] at hs
 obtain ⟨⟨⟨h5, h1⟩, h2⟩, h3⟩ := hs
 exact expr_ok0 (or_ok w (and_ok w (not_ok w (add_ok w (mul_ok w (unary_ok w (postfix_ok w hg hq ho) hp h2 h3) hq ho) hq ho) hp h1 hq ho) hq ho) hq ho) hp h5
theorem VCall.oneO {f : FuncId} {args0 args : List V} {o : VObj} {P : VCR -> Prop} (h0 : VCall C intr0 f args0 [o] fun r σ' => σ' = [o] /\ closedCR r = true /\ P r) (i : Nat) {σ : VS} {K : VCR -> VS -> Prop} (hσ : nth σ i = some o) (hc : bdO 0 o = true) (hba : bdL 1 args0 = true) (ha : args = renL (emb [i] σ.length) args0) (hk : ∀ r, P r -> K r σ) :
  VCall C intr0 f args σ K := by
 refine h0.frame [i] rfl (by simp) (fun j i' h => ?_) hba ha (fun r0 σ0' h _ => ?_)
 ·cases j with
  | zero =>
   obtain rfl : i = i' := by simpa using h
   exact ⟨o, rfl, by rw [<- nth_eq, hσ, renO_closed _ _ hc], bdO_up _ _ hc⟩
  | succ j => simp at h
 ·obtain ⟨rfl, h2, h3⟩ := h
  rw [renCR_closed _ _ h2]
  simp only [List.map_cons, List.map_nil, renO_closed _ _ hc, merge, List.append_nil]
  rw [set_same hσ]
  exact hk r0 h3
abbrev oneV : List V := exV 0 1 .nils .nils
abbrev ascV (b c b' c' : Nat) (d : List D) : List V := exV 11 0 (.ps b 0 5 c [d]) (.ps b' 0 8 c' [oneD])
abbrev fmO : V := .agg [strV [98], intV 0, boolV false, intV 0]
abbrev fmA : V := .agg [strV [], intV 1, boolV false, intV 1]
set_option maxRecDepth 100000 in
set_option maxHeartbeats 8000000 in
theorem fits_one0 : VCall C intr0 F.syntax_fits [.agg oneV, fmO] [] fun r σ' => σ' = [] /\ r = .ret (boolV true) := by
 refine VCall.b1 nofz (fun _ => rfl) ?_
 repeat first | refine VCode.loop ?_ | refine VCall.intrinsic (args := [.str _, .str _]) (x := .bool true) rfl rfl ?_ | refine VCall.intrinsic (args := [.str _, .str _]) (x := .bool false) rfl rfl ?_ | refine VCall.b0 nofz (fun _ => rfl) ?_
 refine VUpd.drop 0 ?_ ?_ ?_ ?_
 iterate 3 exact rfl
 refine VUpd.now rfl ⟨rfl, rfl⟩
set_option maxRecDepth 100000 in
set_option maxHeartbeats 8000000 in
theorem fits_asc0 (b c b' c' : Nat) (d : List D) : VCall C intr0 F.syntax_fits [.agg (ascV b c b' c' d), fmA] [] fun r σ' => σ' = [] /\ r = .ret (boolV true) := by
 refine VCall.b1 nofz (fun _ => rfl) ?_
 repeat first | refine VCode.loop ?_ | refine VCall.intrinsic (args := [.str _, .str _]) (x := .bool true) rfl rfl ?_ | refine VCall.intrinsic (args := [.str _, .str _]) (x := .bool false) rfl rfl ?_ | refine VCall.b0 nofz (fun _ => rfl) ?_
 refine VUpd.drop 0 ?_ ?_ ?_ ?_
 iterate 3 exact rfl
 refine VUpd.now rfl ⟨rfl, rfl⟩
set_option maxRecDepth 100000 in
set_option maxHeartbeats 8000000 in
theorem mis_one0 : VCall C intr0 F.syntax_misnamed [.agg oneV, fmO] [] fun r σ' => σ' = [] /\ r = .ret (boolV false) := by
 refine VCall.b1 nofz (fun _ => rfl) ?_
 repeat first | refine VCode.loop ?_ | refine VCall.intrinsic (args := [.str _, .str _]) (x := .bool true) rfl rfl ?_ | refine VCall.intrinsic (args := [.str _, .str _]) (x := .bool false) rfl rfl ?_ | refine VCall.b0 nofz (fun _ => rfl) ?_
 refine VUpd.drop 0 ?_ ?_ ?_ ?_
 iterate 3 exact rfl
 refine VUpd.now rfl ⟨rfl, rfl⟩
set_option maxRecDepth 100000 in
set_option maxHeartbeats 8000000 in
theorem mis_asc0 (b c b' c' : Nat) (d : List D) : VCall C intr0 F.syntax_misnamed [.agg (ascV b c b' c' d), fmA] [] fun r σ' => σ' = [] /\ r = .ret (boolV false) := by
 refine VCall.b1 nofz (fun _ => rfl) ?_
 repeat first | refine VCode.loop ?_ | refine VCall.intrinsic (args := [.str _, .str _]) (x := .bool true) rfl rfl ?_ | refine VCall.intrinsic (args := [.str _, .str _]) (x := .bool false) rfl rfl ?_ | refine VCall.b0 nofz (fun _ => rfl) ?_
 refine VUpd.drop 0 ?_ ?_ ?_ ?_
 iterate 3 exact rfl
 refine VUpd.now rfl ⟨rfl, rfl⟩
set_option maxRecDepth 100000 in
set_option maxHeartbeats 8000000 in
theorem own_one0 : VCall C intr0 F.syntax_own [.agg oneV] [] fun r σ' => σ' = [] /\ r = .ret (.d .nils) := by
 refine VCall.b1 nofz (fun _ => rfl) ?_
 repeat first | refine VCode.loop ?_ | refine VCall.intrinsic (args := [.str _, .str _]) (x := .bool true) rfl rfl ?_ | refine VCall.intrinsic (args := [.str _, .str _]) (x := .bool false) rfl rfl ?_ | refine VCall.b0 nofz (fun _ => rfl) ?_
 refine VUpd.drop 0 ?_ ?_ ?_ ?_
 iterate 3 exact rfl
 refine VUpd.now rfl ⟨rfl, rfl⟩
set_option maxRecDepth 100000 in
set_option maxHeartbeats 8000000 in
theorem own_asc0 (b c b' c' k : Nat) (m nm : List UInt8) (a f : D) : VCall C intr0 F.syntax_own [.agg (ascV b c b' c' [.int .i64 (Int.ofNat k), .str m, .str nm, a, f])] [] fun r σ' => σ' = [] /\ closedCR r = true /\ ∃ b1 c1, r = .ret (.d (.ps b1 0 5 c1 [[.int .i64 (Int.ofNat k), .str m, .str nm, a, f]])) := by
 refine VCall.b1 nofz (fun _ => rfl) ?_
 refine VCall.b0 nofz (fun _ => rfl) ?_
 refine vni rfl (vni ⟨rfl, rfl, Nat.le_refl _, Nat.le_refl _, Nat.le_of_ble_eq_true rfl, Nat.le_of_ble_eq_true rfl⟩ ?_)
 refine VUpd.freeze 2 (es := 5) (l := [[.int .i64 (Int.ofNat k), .str m, .str nm, a, f]]) rfl (drows_d _) (fun _ => ⟨rfl, Nat.le_refl _⟩) (fun b1 => ?_)
 refine VUpd.drop 0 ?_ ?_ ?_ ?_
 iterate 3 exact rfl
 refine VUpd.now rfl ⟨rfl, rfl, b1, 1, rfl⟩
set_option maxRecDepth 100000 in
set_option maxHeartbeats 8000000 in
theorem depth_one0 : VCall C intr0 F.syntax_exprDepth [.agg oneV] [] fun r σ' => σ' = [] /\ r = .ret (intV 1) := by
 refine VCall.b1 nofz (fun _ => rfl) ?_
 repeat first | refine VCode.loop ?_ | refine VRound.intro ?_ | refine VCall.intrinsic (args := [.str _, .str _]) (x := .bool true) rfl rfl ?_ | refine VCall.intrinsic (args := [.str _, .str _]) (x := .bool false) rfl rfl ?_ | refine VCall.b0 nofz (fun _ => rfl) ?_ | refine vnf rfl ?_ | refine exf _ rfl ?_
 refine VUpd.drop 0 ?_ ?_ ?_ ?_
 iterate 3 exact rfl
 refine VUpd.now rfl ⟨rfl, rfl⟩
set_option maxRecDepth 100000 in
set_option maxHeartbeats 8000000 in
theorem depth_asc0 (b c b' c' : Nat) (d : List D) : VCall C intr0 F.syntax_exprDepth [.agg (ascV b c b' c' d)] [] fun r σ' => σ' = [] /\ r = .ret (intV 2) := by
 refine VCall.b1 nofz (fun _ => rfl) ?_
 refine VCode.loop ?_
 refine vnf rfl ?_
 refine exf _ rfl ?_
 refine VCall.pure depth_one0 rfl rfl ?_
 refine VCode.loop ?_
 refine VUpd.drop 0 ?_ ?_ ?_ ?_
 iterate 3 exact rfl
 refine VUpd.now rfl ⟨rfl, rfl⟩
set_option maxRecDepth 100000 in
set_option maxHeartbeats 8000000 in
theorem esize_one0 : VCall C intr0 F.syntax_ExprSize [.agg oneV] [] fun r σ' => σ' = [] /\ r = .ret (intV 1) := by
 refine VCall.b1 nofz (fun _ => rfl) ?_
 repeat first | refine VCode.loop ?_ | refine VRound.intro ?_ | refine VCall.intrinsic (args := [.str _, .str _]) (x := .bool true) rfl rfl ?_ | refine VCall.intrinsic (args := [.str _, .str _]) (x := .bool false) rfl rfl ?_ | refine VCall.b0 nofz (fun _ => rfl) ?_ | refine vnf rfl ?_ | refine exf _ rfl ?_
 refine VUpd.drop 0 ?_ ?_ ?_ ?_
 iterate 3 exact rfl
 refine VUpd.now rfl ⟨rfl, rfl⟩
def fm (s : List UInt8) (t : Int) (l : Bool) (k : Int) : V := .agg [strV s, .d (.int .i64 t), boolV l, .d (.int .i64 k)]
def formsE : List VEnt := [⟨intV 0, fm [98] 0 false 0, 0⟩, ⟨intV 1, fm [120] 0 false 0, 1⟩, ⟨intV 2, fm [98] 0 false 0, 2⟩, ⟨intV 3, fm [110] 0 false 0, 3⟩, ⟨intV 4, fm [109, 110] (-1) false 0, 4⟩,
 ⟨intV 5, fm [] 0 true 0, 5⟩, ⟨intV 6, fm [110] 0 false 1, 6⟩, ⟨intV 7, fm [110] 0 false 1, 7⟩, ⟨intV 8, fm [116, 111] 0 true 1, 8⟩, ⟨intV 9, fm [] 0 true 1, 9⟩,
 ⟨intV 10, fm [110] 0 false 2, 10⟩, ⟨intV 11, fm [] 1 false 1, 11⟩, ⟨intV 12, fm [] 1 false 3, 12⟩, ⟨intV 13, fm [118] 1 true 1, 13⟩, ⟨intV 14, fm [] 1 false (-1), 14⟩,
 ⟨intV 15, fm [110, 120] 1 false 3, 15⟩, ⟨intV 16, fm [110] 0 false (-1), 16⟩]
def formsO : VObj := .map formsE 17
set_option maxRecDepth 100000 in
set_option maxHeartbeats 8000000 in
theorem node_one0 : VCall C intr0 F.syntax_exprNode [.agg oneV, .map 0] [formsO] fun r σ' => σ' = [formsO] /\ closedCR r = true /\ r = .ret (intV 0) := by
 refine VCall.b1 nofz (fun _ => rfl) ?_
 refine exf (some (0, fm [98] 0 false 0)) rfl ?_
 refine VCall.pure fits_one0 rfl rfl ?_
 refine VCall.pure mis_one0 rfl rfl ?_
 refine VCall.b0 nofz (fun _ => rfl) ?_
 refine VCode.loop ?_
 refine VCall.pure own_one0 rfl rfl ?_
 refine VCode.loop ?_
 refine VUpd.drop 1 ?_ ?_ ?_ ?_
 iterate 3 exact rfl
 refine VUpd.now rfl ⟨rfl, rfl, rfl⟩
set_option maxRecDepth 100000 in
set_option maxHeartbeats 8000000 in
theorem check_one0 : VCall C intr0 F.syntax_CheckExpr [.agg oneV] [] fun r σ' => σ' = [] /\ r = .ret (intV 0) := by
 refine VCall.b1 nofz (fun _ => rfl) ?_
 refine VCall.pure esize_one0 rfl rfl ?_
 refine VCall.pure depth_one0 rfl rfl ?_
 refine VCall.b0 nofz (fun _ => rfl) ?_
 refine exf none rfl (exf none rfl (exf none rfl (exf none rfl (exf none rfl (exf none rfl (exf none rfl (exf none rfl ?_)))))))
 refine exf none rfl (exf none rfl (exf none rfl (exf none rfl (exf none rfl (exf none rfl (exf none rfl (exf none rfl (exf none rfl ?_))))))))
 refine VCall.b0 nofz (fun _ => rfl) ?_
 refine VCall.b0 nofz (fun _ => rfl) ?_
 refine VCall.b0 nofz (fun _ => rfl) ?_
 refine VRound.intro ?_
 refine VCall.oneO node_one0 2 rfl rfl rfl rfl (fun r h => ?_)
 subst h
 refine VCode.loop ?_
 refine VUpd.drop 0 ?_ ?_ ?_ ?_
 iterate 3 exact rfl
 refine VUpd.now rfl ⟨rfl, rfl⟩
def z5 : List D := [.int .i64 (Int.ofNat 0), .str [], .str [], .nils, .nils]
def decD (d : List D) : List D := [.int .i64 (Int.ofNat 1), .str [118], .bool false, .bool false, .str [], .nils] ++ (z5 ++ (z5 ++ (d ++ (oneD ++ [.str [], .str []]))))
def pathB : List UInt8 := [109, 47, 118, 49]
def modV (b : Nat) (d : List D) : List V := [strV pathB, .d .nils, .d (.ps b 0 31 1 [decD d])]
abbrev t5 (k : Nat) (m nm : List UInt8) (a f : D) : List D := [.int .i64 (Int.ofNat k), .str m, .str nm, a, f]
set_option maxRecDepth 100000 in
set_option maxHeartbeats 8000000 in
theorem declared0 (k : Nat) (m nm : List UInt8) (a f : D) : VCall C intr0 F.syntax_declared [.agg ((decD (t5 k m nm a f)).map V.d)] [] fun r σ' => σ' = [] /\ r = .ret (boolV true) := by
 refine VCall.b1 nofz (fun _ => rfl) ?_
 repeat first | refine VCode.loop ?_ | refine VCall.b0 nofz (fun _ => rfl) ?_ | refine vnf rfl ?_ | refine exf _ rfl ?_
 refine VUpd.drop 0 ?_ ?_ ?_ ?_
 iterate 3 exact rfl
 refine VUpd.now rfl ⟨rfl, rfl⟩
set_option maxRecDepth 100000 in
set_option maxHeartbeats 8000000 in
theorem titled0 (k : Nat) (m nm : List UInt8) (a f : D) : VCall C intr0 F.syntax_titled [.agg ((decD (t5 k m nm a f)).map V.d)] [] fun r σ' => σ' = [] /\ r = .ret (boolV true) := by
 refine VCall.b1 nofz (fun _ => rfl) ?_
 refine VCall.b0 nofz (fun _ => rfl) ?_
 refine VCall.b0 nofz (fun _ => rfl) ?_
 refine VCode.loop ?_
 refine isName_spec [118] (by decide) ?_
 refine VUpd.drop 0 ?_ ?_ ?_ ?_
 iterate 3 exact rfl
 refine VUpd.now rfl ⟨rfl, rfl⟩
theorem need_yes {R : Rd} (w : R.Wf) {l : List (List UInt8)} (hl : l.length < 4294967296) {p q : Nat} (hp : p < R.ts.length) (h : needF R l p = .ok () q) (b cap i : Nat) {σ : VS} {K : VCR -> VS -> Prop} (hσ : nth σ i = some (rdO R p)) (hk : K (.ret (.tup [])) (σ.set i (rdO R q))) :
  VCall C intr0 F.reader_need [.bp i 0, .d (.ps b 0 1 cap (strsD l))] σ K :=
 need_spec R w l hl p hp b cap i hσ (by rw [h]; exact hk)
theorem need_one {R : Rd} {p : Nat} {s : List UInt8} (h : isTok (R.tok p) s = true) : needF R [s] p = .ok () (p + 1) := by
 rw [needF, if_pos h]
 rfl
theorem typ_yes {R : Rd} (w : R.Wf) {p q : Nat} {t : Ty} (hp : p < R.ts.length) (h : typF R R.ts.length p = .ok t q) (i : Nat) {σ : VS} {K : VCR -> VS -> Prop} (hσ : nth σ i = some (rdO R p)) (hk : ∀ d, TyD t d -> K (.ret (.agg (d.map V.d))) (σ.set i (rdO R q))) : VCall C intr0 F.reader_typ [.bp i 0] σ K :=
 (typ_ok w R.ts.length 0 (by omega)).call p (Nat.zero_le _) hp i σ K hσ (fun t' d q' e hd => by
  rw [h] at e
  cases e
  exact hk d hd) fun off e q' e' => by rw [h] at e'; cases e'
def pufz : Nat -> Bool := fun t => Nat.beq t 99
set_option maxRecDepth 100000 in
set_option maxHeartbeats 8000000 in
theorem pu_spec0 : VCall C intr0 F.strconv_ParseUint_x [strV [49], intV 10, intV 64] [] fun r σ' => σ' = [] /\ r = .ret (.tup [.d (.int .u64 1), .d .nili]) := by
 refine VCall.b1 pufz (fun _ => rfl) ?_
 refine vnf rfl ?_
 intro b
 refine VCode.loop ?_
 refine vnf rfl ?_
 refine exf _ rfl ?_
 refine VCode.loop ?_
 refine VUpd.drop 0 ?_ ?_ ?_ ?_
 iterate 3 exact rfl
 refine VUpd.now rfl ⟨rfl, rfl⟩
set_option maxRecDepth 100000 in
set_option maxHeartbeats 8000000 in
theorem pu_spec {σ : VS} {K : VCR -> VS -> Prop} (hk : K (.ret (.tup [.d (.int .u64 1), .d .nili])) σ) : VCall C intr0 F.strconv_ParseUint [strV [49], intV 10, intV 64] σ K := by
 refine VCall.b0 nofz (fun _ => rfl) ?_
 refine VCall.pure pu_spec0 rfl rfl ?_
 exact hk
set_option maxHeartbeats 8000000 in
theorem number_spec {R : Rd} {p o : Nat} (ht : R.ts[p]? = some ⟨3, [49], o⟩) (hp : p < 4294967296) (i : Nat) {σ : VS} {K : VCR -> VS -> Prop} (hσ : nth σ i = some (rdO R p)) (hk : K (.ret (.agg (exV 0 1 .nils .nils))) (σ.set i (rdO R (p + 1)))) :
  VCall C intr0 F.reader_number [.bp i 0, .d (.int .u64 9223372036854775807)] σ K := by
 refine VCall.one (args0 := [.bp 0 0, .d (.int .u64 9223372036854775807)]) (P := fun r cs => cs = rdC R (p + 1) /\ r = .ret (.agg (exV 0 1 .nils .nils))) ?_ i hσ rfl rfl rfl (fun r cs' h => by
  obtain ⟨rfl, rfl⟩ := h
  exact hk)
 refine VCall.b1 nofz (fun _ => rfl) ?_
 refine peek_spec R p _ ht 0 rfl ?_
 refine token_spec R p 3 _ ht hp 0 rfl (fun _ => ?_) (fun h => absurd rfl h)
 refine pu_spec ?_
 refine VUpd.drop 1 ?_ ?_ ?_ ?_
 iterate 3 exact rfl
 refine VUpd.now rfl ⟨rdC R (p + 1), rfl, rfl, rfl, rfl, rfl⟩
def NilP (ty kids : D) : Prop := ty = .nils /\ kids = .nils
set_option maxHeartbeats 8000000 in
theorem prim_num {R : Rd} {p o : Nat} (ht : R.ts[p]? = some ⟨3, [49], o⟩) (hp : p < 4294967296) : ExOk F.reader_primary R p (p + 1) 0 1 NilP := by
 refine ExOk.of ?_
 refine VCall.b1 nofz (fun _ => rfl) ?_
 refine peek_spec R p _ ht 0 rfl ?_
 refine number_spec ht hp 0 rfl ?_
 refine VUpd.drop 1 ?_ ?_ ?_ ?_
 iterate 3 exact rfl
 refine VUpd.now rfl ⟨rdC R (p + 1), rfl, rfl, rfl, rfl, _, _, ⟨rfl, rfl⟩, rfl⟩
theorem one_ok {R : Rd} (w : R.Wf) {p o : Nat} (ht : R.ts[p]? = some ⟨3, [49], o⟩) (hq : p + 1 < R.ts.length) (ho : NoOp (R.tok (p + 1)) = true) : ExOk F.reader_expr R p (p + 1) 0 1 NilP :=
 expr_ok w (by omega) (by rw [Rd.tok, ht]; rfl) hq ho (prim_num ht (by have := w.len; omega))
def AscP (t : Ty) (ty kids : D) : Prop := ∃ b c b' c' d, TyD t d /\ ty = .ps b 0 5 c [d] /\ kids = .ps b' 0 8 c' [oneD]
def prfz : Nat -> Bool := fun t => Nat.beq t 85 || Nat.beq t 87 || Nat.beq t 90
set_option maxRecDepth 100000 in
set_option maxHeartbeats 8000000 in
theorem prim_par {R : Rd} (w : R.Wf) {p q o oq : Nat} {t : Ty} (ht : R.ts[p]? = some ⟨6, [40], o⟩) (h1 : ExOk F.reader_expr R (p + 1) (p + 2) 0 1 NilP) (hc : R.ts[p + 2]? = some ⟨6, [58], oq⟩) (hp3 : p + 3 < R.ts.length) (hty : typF R R.ts.length (p + 3) = .ok t q) (hq : q < R.ts.length) (hr : isTok (R.tok q) [41] = true) :
  ExOk F.reader_primary R p (q + 1) 11 0 (AscP t) := by
 have hp : p < R.ts.length := by omega
 have hno : ∀ s, decide (s = [40]) = false -> isTok (R.tok p) s = false := fun s hs => by
  rw [Rd.tok, ht]
  have : ([40] : List UInt8) ≠ s := fun e => by subst e; cases hs
  show (decide ([40] = s) && _) = false
  rw [decide_eq_false this]
  rfl
 refine ExOk.of ?_
 refine VCall.b1 prfz (fun _ => rfl) ?_
 refine peek_spec R p _ ht 0 rfl ?_
 refine skip_no w hp (hno _ rfl) 0 rfl ?_
 refine skip_no w hp (hno _ rfl) 0 rfl ?_
 refine skip_no w hp (hno _ rfl) 0 rfl ?_
 refine skip_no w hp (hno _ rfl) 0 rfl ?_
 refine skip_no w hp (hno _ rfl) 0 rfl ?_
 refine skip_yes w hp (by rw [Rd.tok, ht]; rfl) 0 rfl ?_
 refine h1.call 0 _ _ rfl (fun ty kids hP => ?_)
 obtain ⟨rfl, rfl⟩ := hP
 refine skip_yes w (p := p + 2) (by omega) (by rw [Rd.tok, hc]; rfl) 0 rfl ?_
 intro b'
 repeat refine vni (by repeat' (first | exact trivial | exact rfl | refine vnf rfl ?_ | refine And.intro ?_ ?_)) ?_
 refine typ_yes w hp3 hty 0 rfl (fun d hd => ?_)
 obtain ⟨k, m, nm, a, f, rfl⟩ := hd.five
 intro b
 repeat refine vni (by repeat' (first | exact trivial | exact rfl | refine vnf rfl ?_ | refine And.intro ?_ ?_)) ?_
 intro b2
 refine need_yes w (l := [[41]]) (by decide) hq (need_one hr) _ _ 0 rfl ?_
 refine VUpd.drop 1 ?_ ?_ ?_ ?_
 iterate 3 exact rfl
 refine VUpd.now rfl ⟨rdC R (q + 1), rfl, rfl, rfl, rfl, _, _, ⟨b, _, b', _, _, hd, rfl, rfl⟩, rfl⟩
structure DecT (R : Rd) (p q : Nat) (t : Ty) : Prop where
 l : ∃ o, R.ts[p]? = some ⟨5, [108, 101, 116], o⟩
 v : ∃ o, R.ts[p + 1]? = some ⟨1, [118], o⟩
 c : ∃ o, R.ts[p + 2]? = some ⟨6, [58], o⟩
 lt : p + 3 < R.ts.length
 ty : typF R R.ts.length (p + 3) = .ok t q
 e : ∃ o, R.ts[q]? = some ⟨6, [61], o⟩
 n : ∃ o, R.ts[q + 1]? = some ⟨3, [49], o⟩
 z : ∃ o, R.ts[q + 2]? = some ⟨0, [], o⟩
theorem get_lt {R : Rd} {p : Nat} {t : Tok} (h : R.ts[p]? = some t) : p < R.ts.length := (List.getElem?_eq_some_iff.1 h).1
def ltfz : Nat -> Bool := fun t => Nat.beq t 18 || Nat.beq t 26
set_option maxRecDepth 100000 in
set_option maxHeartbeats 8000000 in
theorem decl_spec {R : Rd} (w : R.Wf) {p q : Nat} {t : Ty} (h : DecT R p q t) (i : Nat) {σ : VS} {K : VCR -> VS -> Prop} (hσ : nth σ i = some (rdO R p)) (hk : ∀ d, TyD t d -> K (.ret (.agg ((decD d).map V.d))) (σ.set i (rdO R (q + 2)))) : VCall C intr0 F.reader_decl [.bp i 0] σ K := by
 obtain ⟨⟨o0, hl⟩, ⟨o1, hv⟩, ⟨o2, hc⟩, hlt, hty, ⟨o3, he⟩, ⟨o4, hn⟩, ⟨o5, hz⟩⟩ := h
 have hlen := w.len
 have hq := get_lt he
 have hq2 := get_lt hz
 refine VCall.one (args0 := [.bp 0 0]) (P := fun r cs => cs = rdC R (q + 2) /\ ∃ d, TyD t d /\ r = .ret (.agg ((decD d).map V.d))) ?_ i hσ rfl rfl rfl (fun r cs' h => by
  obtain ⟨rfl, d, hd, rfl⟩ := h
  exact hk d hd)
 refine VCall.b1 nofz (fun _ => rfl) ?_
 refine skip_no w (p := p) (by omega) (by rw [Rd.tok, hl]; rfl) 0 rfl ?_
 refine skip_no w (p := p) (by omega) (by rw [Rd.tok, hl]; rfl) 0 rfl ?_
 refine skip_yes w (p := p) (by omega) (by rw [Rd.tok, hl]; rfl) 0 rfl ?_
 refine VCall.b0 ltfz (fun _ => rfl) ?_
 repeat refine vni (by repeat' (first | exact trivial | exact rfl | refine vnf rfl ?_ | refine And.intro ?_ ?_)) ?_
 refine name_spec R (p + 1) _ hv (by omega) 0 rfl (fun _ => ?_) (fun h => absurd rfl h)
 repeat refine vni (by repeat' (first | exact trivial | exact rfl | refine vnf rfl ?_ | refine And.intro ?_ ?_)) ?_
 refine is_spec R (p + 2) _ _ hc 0 rfl ?_
 intro b
 refine need_yes w (l := [[58]]) (by decide) (p := p + 2) (by omega) (need_one (by rw [Rd.tok, hc]; rfl)) _ _ 0 rfl ?_
 repeat refine vni (by repeat' (first | exact trivial | exact rfl | refine vnf rfl ?_ | refine And.intro ?_ ?_)) ?_
 refine typ_yes w hlt hty 0 rfl (fun d hd => ?_)
 obtain ⟨k, m, nm, a, f, rfl⟩ := hd.five
 repeat refine vni (by repeat' (first | exact trivial | exact rfl | refine vnf rfl ?_ | refine And.intro ?_ ?_)) ?_
 intro b2
 refine need_yes w (l := [[61]]) (by decide) (p := q) (by omega) (need_one (by rw [Rd.tok, he]; rfl)) _ _ 0 rfl ?_
 repeat refine vni (by repeat' (first | exact trivial | exact rfl | refine vnf rfl ?_ | refine And.intro ?_ ?_)) ?_
 refine (one_ok w hn hq2 (by rw [Rd.tok, hz]; rfl)).call 0 _ _ rfl (fun ty kids hP => ?_)
 obtain ⟨rfl, rfl⟩ := hP
 repeat refine vni (by repeat' (first | exact trivial | exact rfl | refine vnf rfl ?_ | refine And.intro ?_ ?_)) ?_
 refine VUpd.drop 1 ?_ ?_ ?_ ?_
 iterate 3 exact rfl
 refine VUpd.now rfl ⟨rdC R (q + 2), rfl, rfl, rfl, rfl, _, hd, rfl⟩
set_option maxRecDepth 100000 in
set_option maxHeartbeats 8000000 in
theorem path_spec {R : Rd} (w : R.Wf) {p o0 o1 o2 : Nat} {t3 : Tok} (h0 : R.ts[p]? = some ⟨1, [109], o0⟩) (h1 : R.ts[p + 1]? = some ⟨6, [47], o1⟩) (h2 : R.ts[p + 2]? = some ⟨1, [118, 49], o2⟩) (h3 : R.ts[p + 3]? = some t3) (hno : isTok t3 [47] = false)
  (i : Nat) {σ : VS} {K : VCR -> VS -> Prop} (hσ : nth σ i = some (rdO R p)) (hk : K (.ret (strV pathB)) (σ.set i (rdO R (p + 3)))) : VCall C intr0 F.reader_path [.bp i 0] σ K := by
 have hlen := w.len
 have hp3 := get_lt h3
 refine VCall.one (args0 := [.bp 0 0]) (P := fun r cs => cs = rdC R (p + 3) /\ r = .ret (strV pathB)) ?_ i hσ rfl rfl rfl (fun r cs' h => by
  obtain ⟨rfl, rfl⟩ := h
  exact hk)
 refine VCall.b1 nofz (fun _ => rfl) ?_
 refine peek_spec R p _ h0 0 rfl ?_
 refine name_spec R p _ h0 (by omega) 0 rfl (fun _ => ?_) (fun h => absurd rfl h)
 refine VCode.loop ?_
 refine skip_yes w (p := p + 1) (by omega) (by rw [Rd.tok, h1]; rfl) 0 rfl ?_
 refine name_spec R (p + 2) _ h2 (by omega) 0 rfl (fun _ => ?_) (fun h => absurd rfl h)
 refine vni (Nat.le_of_ble_eq_true rfl) (vni (Nat.le_of_ble_eq_true rfl) ?_)
 refine VCode.loop ?_
 refine skip_no w (p := p + 3) (by omega) (by rw [Rd.tok, h3]; exact hno) 0 rfl ?_
 refine VCall.intrinsic (args := [.str pathB]) (x := .bool true) rfl rfl ?_
 refine VUpd.drop 1 ?_ ?_ ?_ ?_
 iterate 3 exact rfl
 refine VUpd.now rfl ⟨rdC R (p + 3), rfl, rfl, rfl, rfl, rfl⟩
def modfz : Nat -> Bool := fun t => Nat.beq t 8 || Nat.beq t 38 || Nat.beq t 39 || Nat.beq t 44 || Nat.beq t 45
structure ModT (R : Rd) (q : Nat) (t : Ty) : Prop where
 m : ∃ o, R.ts[0]? = some ⟨5, [109, 111, 100, 117, 108, 101], o⟩
 p0 : ∃ o, R.ts[1]? = some ⟨1, [109], o⟩
 p1 : ∃ o, R.ts[2]? = some ⟨6, [47], o⟩
 p2 : ∃ o, R.ts[3]? = some ⟨1, [118, 49], o⟩
 d : DecT R 4 q t
set_option maxRecDepth 100000 in
set_option maxHeartbeats 8000000 in
theorem module_read {R : Rd} (w : R.Wf) {q : Nat} {t : Ty} (h : ModT R q t) (i : Nat) {σ : VS} {K : VCR -> VS -> Prop} (hσ : nth σ i = some (rdO R 0)) (hk : ∀ b d b' c' x, TyD t d -> K (.ret (.tup [.agg (modV b d), .d (.ps b' 0 1 c' x)])) (σ.set i (rdO R (q + 2)))) : VCall C intr0 F.reader_module [.bp i 0] σ K := by
 obtain ⟨⟨o0, hm⟩, ⟨o1, h1⟩, ⟨o2, h2⟩, ⟨o3, h3⟩, hd⟩ := h
 obtain ⟨o4, h4⟩ := hd.l
 obtain ⟨o5, hz⟩ := hd.z
 have hlen := w.len
 have hp := get_lt h4
 refine VCall.one (args0 := [.bp 0 0]) (P := fun r cs => cs = rdC R (q + 2) /\ ∃ b d b' c' x, TyD t d /\ r = .ret (.tup [.agg (modV b d), .d (.ps b' 0 1 c' x)])) ?_ i hσ rfl rfl rfl (fun r cs' h => by
  obtain ⟨rfl, b, d, b', c', x, hd, rfl⟩ := h
  exact hk b d b' c' x hd)
 refine VCall.b1 modfz (fun _ => rfl) ?_
 intro b
 refine need_yes w (l := [[109, 111, 100, 117, 108, 101]]) (by decide) (p := 0) (by omega) (need_one (by rw [Rd.tok, hm]; rfl)) _ _ 0 rfl ?_
 refine path_spec w h1 h2 h3 h4 rfl 0 rfl ?_
 refine VCode.loop ?_
 refine skip_no w (p := 4) hp (by rw [Rd.tok, h4]; rfl) 0 rfl ?_
 refine VCode.loop ?_
 refine peek_spec R 4 _ h4 0 rfl ?_
 refine peek_spec R 4 _ h4 0 rfl ?_
 intro b1
 refine vni rfl (vni ⟨Nat.le_of_ble_eq_true rfl, Nat.le_of_ble_eq_true rfl⟩ ?_)
 intro b2
 repeat refine vni (by repeat' (first | exact trivial | exact rfl | refine vnf rfl ?_ | refine And.intro ?_ ?_)) ?_
 refine decl_spec w hd 0 rfl (fun d hd => ?_)
 obtain ⟨k, m, nm, a, f, rfl⟩ := hd.five
 intro b3
 repeat refine vni (by repeat' (first | exact trivial | exact rfl | refine vnf rfl ?_ | exact Nat.le_of_ble_eq_true rfl | refine And.intro ?_ ?_)) ?_
 intro b4
 repeat refine vni (by repeat' (first | exact trivial | exact rfl | refine vnf rfl ?_ | exact Nat.le_of_ble_eq_true rfl | refine And.intro ?_ ?_)) ?_
 refine VCode.loop ?_
 refine peek_spec R (q + 2) _ hz 0 rfl ?_
 refine VUpd.drop 1 ?_ ?_ ?_ ?_
 iterate 3 exact rfl
 refine VUpd.now rfl ⟨rdC R (q + 2), rfl, rfl, rfl, rfl, _, _, _, _, _, hd, rfl⟩
end Go.Proofs.YthfehkcfhiilfaaGreatDoor
