/- Contracts of the reader's functions. -/
import Derived.Test.YthfehkcfhiilfaaGreatDoorKLb
namespace Go.VM set_option linter.unusedSimpArgs false set_option linter.unusedVariables false
open Go.AM
section
variable {C : Ctx} {intr : FuncId -> List Value -> Option Value}
theorem renCR_closed (π : Nat -> Nat) (r : VCR) (h : closedCR r = true) : renCR π r = r := by
 cases r with
 | ret v => simp only [renCR]; rw [ren_closed _ v h]
 | pan v => simp only [renCR]; rw [ren_closed _ v h]
mutual
theorem bd_up : ∀ (k : Nat) (v : V), bd 0 v = true -> bd k v = true
 | _, .d _, _ => by simp only [bd]
 | _, .bp _ _, h => by simp only [bd] at h; exact absurd (blt_lt h) (Nat.not_lt_zero _)
 | _, .ptr _ _ _ _, h => by simp only [bd] at h; exact absurd (blt_lt h) (Nat.not_lt_zero _)
 | _, .fp _ _ _, _ => by simp only [bd]
 | _, .ms _ _ _ _ _, h => by simp only [bd] at h; exact absurd (blt_lt h) (Nat.not_lt_zero _)
 | _, .map _, h => by simp only [bd] at h; exact absurd (blt_lt h) (Nat.not_lt_zero _)
 | k, .fn _ a c, h => by simp only [bd, Bool.and_eq_true] at h ⊢; exact ⟨bdL_up k a h.1, bdL_up k c h.2⟩
 | _, .yld _, h => by simp only [bd] at h; exact absurd (blt_lt h) (Nat.not_lt_zero _)
 | k, .iface _ v, h => by simp only [bd] at h ⊢; exact bd_up k v h
 | k, .agg l, h => by simp only [bd] at h ⊢; exact bdL_up k l h
 | k, .tup l, h => by simp only [bd] at h ⊢; exact bdL_up k l h
theorem bdL_up : ∀ (k : Nat) (l : List V), bdL 0 l = true -> bdL k l = true
 | _, [], _ => by simp only [bdL]
 | k, v :: l, h => by simp only [bdL, Bool.and_eq_true] at h ⊢; exact ⟨bd_up k v h.1, bdL_up k l h.2⟩
end
theorem VCall.one {f : FuncId} {args0 args cs : List V} {P : VCR -> List V -> Prop} (h0 : VCall C intr f args0 [.box cs] fun r σ' => ∃ cs', σ' = [.box cs'] /\ closedCR r = true /\ bdL 0 cs' = true /\ P r cs')
  (i : Nat) {σ : VS} {K : VCR -> VS -> Prop} (hσ : nth σ i = some (.box cs)) (hc : bdL 0 cs = true) (hba : bdL 1 args0 = true) (ha : args = renL (emb [i] σ.length) args0) (hk : ∀ r cs', P r cs' -> K r (σ.set i (.box cs'))) :
  VCall C intr f args σ K := by
 refine h0.frame [i] rfl (by simp) (fun j i' h => ?_) hba ha (fun r0 σ0' h _ => ?_)
 ·cases j with
  | zero =>
   obtain rfl : i = i' := by simpa using h
   refine ⟨.box cs, rfl, ?_, bdL_up 1 cs hc⟩
   rw [<- nth_eq, hσ]
   simp only [renO, renL_closed _ cs hc]
  | succ j => simp at h
 ·obtain ⟨cs', rfl, h2, h3, h4⟩ := h
  rw [renCR_closed _ _ h2]
  simp only [List.map_cons, List.map_nil, renO, renL_closed _ cs' h3, merge, List.append_nil]
  exact hk r0 cs' h4
theorem set_same {σ : VS} {i : Nat} {o : VObj} (h : nth σ i = some o) : σ.set i o = σ := by
 rw [nth_eq] at h
 obtain ⟨h1, h2⟩ := List.getElem?_eq_some_iff.1 h
 rw [<- h2]
 exact List.set_getElem_self h1
end
end Go.VM
namespace Go.Proofs.YthfehkcfhiilfaaGreatDoor set_option linter.unusedSimpArgs false set_option linter.unusedVariables false
open Go.AM Go.VM
structure Rd where
 b : Nat
 cap : Nat
 ts : List Tok
def rdC (R : Rd) (p : Nat) : List V := [.d (.ps R.b 0 3 R.cap (R.ts.map tokD)), intV p]
def rdO (R : Rd) (p : Nat) : VObj := .box (rdC R p)
def tokW (t : Tok) : V := tokV t.kind t.text t.off
theorem tok_at {R : Rd} {p : Nat} {t : Tok} (ht : R.ts[p]? = some t) : nth (R.ts.map tokD) p = some (tokD t) := by
 rw [nth_eq, List.getElem?_map, ht]; rfl
set_option maxHeartbeats 4000000 in
theorem peek_spec (R : Rd) (p : Nat) (t : Tok) (ht : R.ts[p]? = some t) (i : Nat) {σ : VS} {K : VCR -> VS -> Prop} (hσ : nth σ i = some (rdO R p)) (hk : K (.ret (tokW t)) σ) : VCall C intr0 F.reader_peek [.bp i 0] σ K := by
 refine VCall.one (args0 := [.bp 0 0]) (P := fun r cs => r = .ret (tokW t) /\ cs = rdC R p) ?_ i hσ rfl rfl rfl (fun r cs' h => by rw [h.1, h.2]; show K _ (σ.set i (rdO R p)); rw [set_same hσ]; exact hk)
 refine VCall.b1 nofz (fun _ => rfl) ?_
 refine vnf rfl ?_
 refine exf (tokD t) (tok_at ht) ?_
 repeat refine vni (by repeat' (first | exact trivial | exact rfl | refine vnf rfl ?_ | refine exf (tokD t) (tok_at ht) ?_ | refine And.intro ?_ ?_)) ?_
 refine VUpd.drop 1 ?_ ?_ ?_ ?_
 iterate 3 exact rfl
 refine VUpd.now rfl ⟨rdC R p, rfl, rfl, rfl, rfl, rfl⟩
def stepP (t : Tok) (p : Nat) : Nat := if t.kind = 0 then p else p + 1
set_option maxHeartbeats 4000000 in
theorem take_spec (R : Rd) (p : Nat) (t : Tok) (ht : R.ts[p]? = some t) (hp : p < 4294967296) (i : Nat) {σ : VS} {K : VCR -> VS -> Prop} (hσ : nth σ i = some (rdO R p)) (hk : K (.ret (tokW t)) (σ.set i (rdO R (stepP t p)))) : VCall C intr0 F.reader_take [.bp i 0] σ K := by
 refine VCall.one (args0 := [.bp 0 0]) (P := fun r cs => r = .ret (tokW t) /\ cs = rdC R (stepP t p)) ?_ i hσ rfl rfl rfl (fun r cs' h => by rw [h.1, h.2]; exact hk)
 refine VCall.b1 nofz (fun _ => rfl) ?_
 refine vnf rfl ?_
 refine exf (tokD t) (tok_at ht) ?_
 repeat refine vni (by repeat' (first | exact trivial | exact rfl | refine vnf rfl ?_ | refine exf (tokD t) (tok_at ht) ?_ | refine And.intro ?_ ?_)) ?_
 refine vci (fun h => ?_) (fun h => ?_)
 ·have h' : t.kind ≠ 0 := fun e => by rw [e] at h; cases h
  refine VUpd.drop 1 ?_ ?_ ?_ ?_
  iterate 3 exact rfl
  refine VUpd.now rfl ⟨rdC R (p + 1), ?_, rfl, rfl, rfl, ?_⟩
  ·show [VObj.box [_, V.d (.int .i64 (IntKind.i64.wrap (Int.ofNat p + 1)))]] = _
   rw [wrap_succ (by omega)]
   rfl
  ·rw [stepP, if_neg h']
 ·have h' : t.kind = 0 := nz_of h
  refine VUpd.drop 1 ?_ ?_ ?_ ?_
  iterate 3 exact rfl
  refine VUpd.now rfl ⟨rdC R p, rfl, rfl, rfl, rfl, ?_⟩
  rw [stepP, if_pos h']
def wrongV (off e : Nat) : V := .iface 72 (.agg [intV off, intV e])
set_option maxHeartbeats 4000000 in
theorem fail_spec (v : V) (off e : Nat) {σ : VS} {K : VCR -> VS -> Prop} (hk : K (.pan (wrongV off e)) σ) : VCall C intr0 F.reader_fail [v, intV off, intV e] σ K := by
 refine VCall.b0 nofz (fun _ => rfl) ?_
 exact hk
def isTok (t : Tok) (s : List UInt8) : Bool := decide (t.text = s) && (decide (t.kind = 5) || decide (t.kind = 6))
theorem is_end {R : Rd} {p : Nat} {v : Bool} {w : Bool} {o : VObj} (h : v = w) : VUpd 1 (.ret (boolV v)) [.box (rdC R p), o] fun r σ' => ∃ cs', σ' = [.box cs'] /\ closedCR r = true /\ bdL 0 cs' = true /\ (r = .ret (boolV w) /\ cs' = rdC R p) :=
 .drop 1 rfl rfl rfl (.now rfl ⟨rdC R p, rfl, rfl, rfl, by rw [h], rfl⟩)
set_option maxHeartbeats 4000000 in
theorem is_spec (R : Rd) (p : Nat) (t : Tok) (s : List UInt8) (ht : R.ts[p]? = some t) (i : Nat) {σ : VS} {K : VCR -> VS -> Prop} (hσ : nth σ i = some (rdO R p)) (hk : K (.ret (boolV (isTok t s))) σ) : VCall C intr0 F.reader_is [.bp i 0, strV s] σ K := by
 refine VCall.one (args0 := [.bp 0 0, strV s]) (P := fun r cs => r = .ret (boolV (isTok t s)) /\ cs = rdC R p) ?_ i hσ rfl rfl rfl (fun r cs' h => by rw [h.1, h.2]; show K _ (σ.set i (rdO R p)); rw [set_same hσ]; exact hk)
 refine VCall.b1 nofz (fun _ => rfl) ?_
 refine peek_spec R p t ht 0 rfl ?_
 refine vci (fun h => ?_) (fun h => ?_)
 ·repeat refine vcp h ?_
  refine vci (fun h2 => ?_) (fun h2 => ?_)
  ·repeat first | refine vcp h2 ?_ | refine vcp h ?_
   refine is_end ?_
   rw [isTok, h, show t.kind = 5 from deq (b := 5) h2]; rfl
  ·repeat first | refine vcn h2 ?_ | refine vcp h ?_
   refine is_end ?_
   have : t.kind ≠ 5 := dneq (b := 5) h2
   rw [isTok, h, decide_eq_false this, Bool.true_and, Bool.false_or]
   exact decide_eq_decide.2 (by simp only [Int.ofNat_eq_natCast]; omega)
 ·repeat refine vcn h ?_
  refine is_end ?_
  rw [isTok, h]; rfl
theorem isTok_kind {t : Tok} {s : List UInt8} (h : isTok t s = true) : t.kind ≠ 0 := by
 simp only [isTok, Bool.and_eq_true, Bool.or_eq_true, decide_eq_true_eq] at h
 omega
set_option maxHeartbeats 4000000 in
theorem skip_spec (R : Rd) (p : Nat) (t : Tok) (s : List UInt8) (ht : R.ts[p]? = some t) (hp : p < 4294967296) (i : Nat) {σ : VS} {K : VCR -> VS -> Prop} (hσ : nth σ i = some (rdO R p))
  (h1 : isTok t s = true -> K (.ret (boolV true)) (σ.set i (rdO R (p + 1)))) (h0 : isTok t s = false -> K (.ret (boolV false)) σ) : VCall C intr0 F.reader_skip [.bp i 0, strV s] σ K := by
 refine VCall.b0 nofz (fun _ => rfl) ?_
 refine is_spec R p t s ht i hσ ?_
 refine vci (fun h => ?_) (fun h => ?_)
 ·exact h0 (by simpa using h)
 ·have h' : isTok t s = true := by simpa using h
  refine take_spec R p t ht hp i hσ ?_
  have e : stepP t p = p + 1 := by rw [stepP, if_neg (isTok_kind h')]
  rw [e]
  exact h1 h'
set_option maxHeartbeats 4000000 in
theorem token_spec (R : Rd) (p k : Nat) (t : Tok) (ht : R.ts[p]? = some t) (hp : p < 4294967296) (i : Nat) {σ : VS} {K : VCR -> VS -> Prop} (hσ : nth σ i = some (rdO R p))
  (h1 : t.kind = k -> K (.ret (strV t.text)) (σ.set i (rdO R (stepP t p)))) (h0 : t.kind ≠ k -> K (.pan (wrongV t.off 3)) (σ.set i (rdO R (stepP t p)))) : VCall C intr0 F.reader_token [.bp i 0, intV k] σ K := by
 refine VCall.one (args0 := [.bp 0 0, intV k]) (P := fun r cs => cs = rdC R (stepP t p) /\ ((t.kind = k /\ r = .ret (strV t.text)) ∨ (t.kind ≠ k /\ r = .pan (wrongV t.off 3)))) ?_ i hσ rfl rfl rfl ?_
 ·refine VCall.b1 nofz (fun _ => rfl) ?_
  refine take_spec R p t ht hp 0 rfl ?_
  refine vci (fun h => ?_) (fun h => ?_)
  ·have h' : t.kind ≠ k := fun e => by
    rw [e] at h
    rw [Bool.not_eq_true', decide_eq_false_iff_not] at h
    exact h rfl
   refine fail_spec _ t.off 3 ?_
   refine VUpd.drop 1 ?_ ?_ ?_ ?_
   iterate 3 exact rfl
   exact VUpd.now rfl ⟨rdC R (stepP t p), rfl, rfl, rfl, rfl, .inr ⟨h', rfl⟩⟩
  ·have h' : t.kind = k := by
    rw [Bool.not_eq_false'] at h
    exact deq h
   refine VUpd.drop 1 ?_ ?_ ?_ ?_
   iterate 3 exact rfl
   exact VUpd.now rfl ⟨rdC R (stepP t p), rfl, rfl, rfl, rfl, .inl ⟨h', rfl⟩⟩
 ·rintro r cs ⟨rfl, ⟨h, rfl⟩ | ⟨h, rfl⟩⟩
  ·exact h1 h
  ·exact h0 h
set_option maxHeartbeats 4000000 in
theorem name_spec (R : Rd) (p : Nat) (t : Tok) (ht : R.ts[p]? = some t) (hp : p < 4294967296) (i : Nat) {σ : VS} {K : VCR -> VS -> Prop} (hσ : nth σ i = some (rdO R p))
  (h1 : t.kind = 1 -> K (.ret (strV t.text)) (σ.set i (rdO R (p + 1)))) (h0 : t.kind ≠ 1 -> K (.pan (wrongV t.off 3)) (σ.set i (rdO R (stepP t p)))) : VCall C intr0 F.reader_name [.bp i 0] σ K := by
 refine VCall.b0 nofz (fun _ => rfl) ?_
 refine token_spec R p 1 t ht hp i hσ (fun h => ?_) (fun h => ?_)
 ·have e : stepP t p = p + 1 := by rw [stepP, if_neg (by omega)]
  rw [e]
  exact h1 h
 ·exact h0 h
inductive PR (α : Type) where
 | ok (a : α) (p : Nat)
 | bad (off e : Nat)
structure Rd.Wf (R : Rd) : Prop where
 len : R.ts.length < 4294967296
 go : ∀ p t, R.ts[p]? = some t -> t.kind ≠ 0 -> p + 1 < R.ts.length
def Rd.tok (R : Rd) (p : Nat) : Tok := (R.ts[p]?).getD ⟨0, [], 0⟩
theorem Rd.tok_some {R : Rd} {p : Nat} (h : p < R.ts.length) : R.ts[p]? = some (R.tok p) := by
 rw [Rd.tok, List.getElem?_eq_getElem h]; rfl
theorem Rd.Wf.step {R : Rd} (w : R.Wf) {p : Nat} {s : List UInt8} (h : p < R.ts.length) (ht : isTok (R.tok p) s = true) : p + 1 < R.ts.length := w.go p _ (Rd.tok_some h) (isTok_kind ht)
theorem Rd.Wf.stepP {R : Rd} (w : R.Wf) {p : Nat} (h : p < R.ts.length) : stepP (R.tok p) p < R.ts.length := by
 unfold YthfehkcfhiilfaaGreatDoor.stepP
 split
 ·exact h
 ·exact w.go p _ (Rd.tok_some h) (by assumption)
def needF (R : Rd) : List (List UInt8) -> Nat -> PR Unit
 | [], p => .ok () p
 | s :: l, p => if isTok (R.tok p) s then needF R l (p + 1) else .bad (R.tok p).off 3
theorem needF_lt {R : Rd} (w : R.Wf) : ∀ (l : List (List UInt8)) (p p' : Nat), p < R.ts.length -> needF R l p = .ok () p' -> p' < R.ts.length := by
 intro l
 induction l with
 | nil => intro p p' h e; cases e; exact h
 | cons s l ih =>
  intro p p' h e
  rw [needF] at e
  split at e
  ·exact ih _ _ (w.step h (by assumption)) e
  ·cases e
def PRK {α : Type} (R : Rd) (i : Nat) (σ : VS) (K : VCR -> VS -> Prop) (val : α -> V) : PR α -> Prop
 | .ok a p => K (.ret (val a)) (σ.set i (rdO R p))
 | .bad off e => ∀ p, K (.pan (wrongV off e)) (σ.set i (rdO R p))
def strsD (l : List (List UInt8)) : List (List D) := l.map fun s => [.str s]
set_option maxHeartbeats 4000000 in
theorem need_spec (R : Rd) (w : R.Wf) (l : List (List UInt8)) (hl : l.length < 4294967296) (p : Nat) (hp : p < R.ts.length) (b cap i : Nat) {σ : VS} {K : VCR -> VS -> Prop} (hσ : nth σ i = some (rdO R p))
  (hk : PRK R i σ K (fun _ => .tup []) (needF R l p)) : VCall C intr0 F.reader_need [.bp i 0, .d (.ps b 0 1 cap (strsD l))] σ K := by
 refine VCall.one (args0 := [.bp 0 0, .d (.ps b 0 1 cap (strsD l))]) (P := fun r cs => match needF R l p with
  | .ok _ p' => r = .ret (.tup []) /\ cs = rdC R p'
  | .bad off e => r = .pan (wrongV off e) /\ ∃ p', cs = rdC R p') ?_ i hσ rfl rfl rfl ?_
 ·refine VCall.b0 nofz (fun _ => rfl) ?_
  refine VCode.less (tm0 := [(8, intV 0), (7, intV l.length), (6, .d (.ps b 0 1 cap (strsD l))), (0, .bp 0 0)]) ⟨rfl, int_eq (by simp [strsD]), rfl, rfl, trivial⟩ ?_
  refine VCode.iter (fun x : Nat × Nat => [(8, intV x.1), (7, intV l.length), (6, .d (.ps b 0 1 cap (strsD l))), (0, .bp 0 0)]) (fun x => [.box (rdC R x.2)]) (fun x => l.length - x.1)
   (fun x => x.1 <= l.length /\ x.2 < R.ts.length /\ needF R l p = needF R (l.drop x.1) x.2) ?_ (0, p) ⟨Nat.zero_le _, hp, rfl⟩
  rintro ⟨j, q⟩ ⟨hj, hq, he⟩
  have hj : j <= l.length := hj
  have hq : q < R.ts.length := hq
  have he : needF R l p = needF R (l.drop j) q := he
  have hlen := w.len
  refine vci (fun h => ?_) (fun h => ?_)
  ·have h' : j < l.length := dlt h
   refine vnf rfl ?_
   refine exf [.str l[j]] (by rw [nth_eq, strsD, List.getElem?_map, List.getElem?_eq_getElem h']; rfl) ?_
   have hd : l.drop j = l[j] :: l.drop (j + 1) := List.drop_eq_getElem_cons h'
   refine skip_spec R q (R.tok q) l[j] (Rd.tok_some hq) (by omega) 0 rfl (fun h2 => ?_) (fun h2 => ?_)
   ·refine ⟨(j + 1, q + 1), ⟨h', w.step hq h2, ?_⟩, ?_, .same ⟨int_eq (wrap_succ (by omega)), rfl, rfl, rfl, trivial⟩ rfl, rfl, rfl⟩
    ·show needF R l p = needF R (l.drop (j + 1)) (q + 1)
     rw [he, hd, needF, if_pos h2]
    ·show l.length - (j + 1) < l.length - j
     omega
   ·refine peek_spec R q (R.tok q) (Rd.tok_some hq) 0 rfl ?_
    refine fail_spec _ (R.tok q).off 3 ?_
    refine ⟨rdC R q, rfl, rfl, rfl, ?_⟩
    rw [he, hd, needF, if_neg (by rw [h2]; decide)]
    exact ⟨rfl, q, rfl⟩
  ·have h' : l.length <= j := dnlt h
   refine ⟨rdC R q, rfl, rfl, rfl, ?_⟩
   rw [he, List.drop_of_length_le h']
   exact ⟨rfl, rfl⟩
 ·intro r cs h
  cases hn : needF R l p with
  | ok a p' => rw [hn] at h hk; obtain ⟨rfl, rfl⟩ := h; exact hk
  | bad off e => rw [hn] at h hk; obtain ⟨rfl, p', rfl⟩ := h; exact hk p'
end Go.Proofs.YthfehkcfhiilfaaGreatDoor
namespace Go.VM set_option linter.unusedSimpArgs false set_option linter.unusedVariables false
open Go.AM
section
variable {C : Ctx} {intr : FuncId -> List Value -> Option Value}
theorem renO_closed (π : Nat -> Nat) (o : VObj) (h : bdO 0 o = true) : renO π o = o := by
 cases o with
 | box cs => simp only [renO]; rw [renL_closed _ cs h]
 | row es els =>
  simp only [renO]
  congr 1
  simp only [bdO, List.all_eq_true] at h
  conv => rhs; rw [<- List.map_id els]
  exact List.map_congr_left fun e he => renL_closed _ e (h e he)
 | map es c =>
  simp only [renO]
  congr 1
  simp only [bdO, List.all_eq_true, Bool.and_eq_true] at h
  conv => rhs; rw [<- List.map_id es]
  exact List.map_congr_left fun e he => by
   obtain ⟨k, v, b⟩ := e
   have := h _ he
   simp only [renE, ren_closed _ k this.1, ren_closed _ v this.2, id]
 | loop L => simp only [bdO, Bool.and_eq_true] at h; exact absurd (blt_lt h.2) (Nat.not_lt_zero _)
 | defl t => rfl
 | gone => rfl
theorem bdO_up (k : Nat) (o : VObj) (h : bdO 0 o = true) : bdO k o = true := by
 cases o with
 | box cs => exact bdL_up k cs h
 | row es els => simp only [bdO, List.all_eq_true] at h ⊢; exact fun e he => bdL_up k e (h e he)
 | map es c => simp only [bdO, List.all_eq_true, Bool.and_eq_true] at h ⊢; exact fun e he => ⟨bd_up k _ (h e he).1, bd_up k _ (h e he).2⟩
 | loop L => simp only [bdO, Bool.and_eq_true] at h; exact absurd (blt_lt h.2) (Nat.not_lt_zero _)
 | defl t => rfl
 | gone => rfl
theorem VCall.two {f : FuncId} {args0 args : List V} {o1 o2 : VObj} {P : VCR -> VObj -> VObj -> Prop} (h0 : VCall C intr f args0 [o1, o2] fun r σ' => ∃ o1' o2', σ' = [o1', o2'] /\ closedCR r = true /\ bdO 0 o1' = true /\ bdO 0 o2' = true /\ P r o1' o2')
  (i m : Nat) (hne : i ≠ m) {σ : VS} {K : VCR -> VS -> Prop} (h1 : nth σ i = some o1) (h2 : nth σ m = some o2) (c1 : bdO 0 o1 = true) (c2 : bdO 0 o2 = true) (hba : bdL 2 args0 = true) (ha : args = renL (emb [i, m] σ.length) args0)
  (hk : ∀ r o1' o2', P r o1' o2' -> K r ((σ.set i o1').set m o2')) : VCall C intr f args σ K := by
 refine h0.frame [i, m] rfl (by simp [hne]) (fun j i' h => ?_) hba ha (fun r0 σ0' h _ => ?_)
 ·match j, h with
  | 0, h =>
   obtain rfl : i = i' := by simpa using h
   exact ⟨o1, rfl, by rw [<- nth_eq, h1, renO_closed _ _ c1], bdO_up _ _ c1⟩
  | 1, h =>
   obtain rfl : m = i' := by simpa using h
   exact ⟨o2, rfl, by rw [<- nth_eq, h2, renO_closed _ _ c2], bdO_up _ _ c2⟩
  | j + 2, h => simp at h
 ·obtain ⟨o1', o2', rfl, a1, a2, a3, a4⟩ := h
  rw [renCR_closed _ _ a1]
  simp only [List.map_cons, List.map_nil, renO_closed _ _ a2, renO_closed _ _ a3, merge, List.append_nil]
  exact hk r0 o1' o2' a4
end
end Go.VM
namespace Go.Proofs.YthfehkcfhiilfaaGreatDoor set_option linter.unusedSimpArgs false set_option linter.unusedVariables false
open Go.AM Go.VM
def entsFrom : Nat -> List (List UInt8) -> List VEnt
 | _, [] => []
 | k, s :: r => ⟨strV s, boolV true, k⟩ :: entsFrom (k + 1) r
theorem ents_app (l : List (List UInt8)) (s : List UInt8) : ∀ k, entsFrom k (l ++ [s]) = entsFrom k l ++ [⟨strV s, boolV true, k + l.length⟩] := by
 induction l with
 | nil => intro k; rfl
 | cons a l ih =>
  intro k
  show _ :: entsFrom (k + 1) (l ++ [s]) = _
  rw [ih]
  simp only [entsFrom, List.cons_append, List.length_cons]
  rw [show k + 1 + l.length = k + (l.length + 1) from by omega]
def setM (used : List (List UInt8)) : VObj := .map (entsFrom 0 used) used.length
theorem setM_app (used : List (List UInt8)) (s : List UInt8) : setM (used ++ [s]) = .map (entsFrom 0 used ++ [⟨strV s, boolV true, used.length⟩]) (used.length + 1) := by
 rw [setM, ents_app, Nat.zero_add, List.length_append]
 rfl
theorem bd_setM (used : List (List UInt8)) : bdO 0 (setM used) = true := by
 have : ∀ (l : List (List UInt8)) (k : Nat), (entsFrom k l).all (fun e => bd 0 e.key && bd 0 e.val) = true := by
  intro l
  induction l with
  | nil => intro k; rfl
  | cons a l ih => intro k; simp only [entsFrom, List.all_cons, ih]; rfl
 exact this used 0
theorem find_none {s : List UInt8} : ∀ {used : List (List UInt8)} {k i : Nat}, s ∉ used -> vfind .string (strV s) (entsFrom k used) i = some none := by
 intro used
 induction used with
 | nil => intro k i _; rfl
 | cons a l ih =>
  intro k i h
  show (match decide (s = a) with
   | true => some (some (i, boolV true))
   | false => vfind .string (strV s) (entsFrom (k + 1) l) (i + 1)) = _
  rw [decide_eq_false (fun e => h (by simp [e]))]
  exact ih (fun e => h (by simp [e]))
theorem find_some {s : List UInt8} : ∀ {used : List (List UInt8)} {k i : Nat}, s ∈ used -> ∃ j, vfind .string (strV s) (entsFrom k used) i = some (some (j, boolV true)) := by
 intro used
 induction used with
 | nil => intro k i h; simp at h
 | cons a l ih =>
  intro k i h
  by_cases e : s = a
  ·refine ⟨i, ?_⟩
   show (match decide (s = a) with
    | true => some (some (i, boolV true))
    | false => vfind .string (strV s) (entsFrom (k + 1) l) (i + 1)) = _
   rw [decide_eq_true e]
  ·obtain ⟨j, hj⟩ := ih (k := k + 1) (i := i + 1) (by simpa [e] using h)
   refine ⟨j, ?_⟩
   show (match decide (s = a) with
    | true => some (some (i, boolV true))
    | false => vfind .string (strV s) (entsFrom (k + 1) l) (i + 1)) = _
   rw [decide_eq_false e]
   exact hj
theorem fresh_spec (R : Rd) (w : R.Wf) (p : Nat) (hp : p < R.ts.length) (used : List (List UInt8)) (i m : Nat) (hne : i ≠ m) {σ : VS} {K : VCR -> VS -> Prop} (hσ : nth σ i = some (rdO R p)) (hm : nth σ m = some (setM used))
  (h1 : (R.tok p).kind = 1 -> (R.tok p).text ∉ used -> K (.ret (strV (R.tok p).text)) ((σ.set i (rdO R (p + 1))).set m (setM (used ++ [(R.tok p).text]))))
  (h2 : (R.tok p).kind = 1 -> (R.tok p).text ∈ used -> K (.pan (wrongV (R.tok p).off 5)) ((σ.set i (rdO R (p + 1))).set m (setM used)))
  (h3 : (R.tok p).kind ≠ 1 -> K (.pan (wrongV (R.tok p).off 3)) ((σ.set i (rdO R (stepP (R.tok p) p))).set m (setM used))) : VCall C intr0 F.reader_fresh [.bp i 0, .map m] σ K := by
 refine VCall.two (args0 := [.bp 0 0, .map 1]) (P := fun r o1 o2 =>
  ((R.tok p).kind = 1 /\ (R.tok p).text ∉ used /\ r = .ret (strV (R.tok p).text) /\ o1 = rdO R (p + 1) /\ o2 = setM (used ++ [(R.tok p).text])) ∨
  ((R.tok p).kind = 1 /\ (R.tok p).text ∈ used /\ r = .pan (wrongV (R.tok p).off 5) /\ o1 = rdO R (p + 1) /\ o2 = setM used) ∨
  ((R.tok p).kind ≠ 1 /\ r = .pan (wrongV (R.tok p).off 3) /\ o1 = rdO R (stepP (R.tok p) p) /\ o2 = setM used)) ?_ i m hne hσ hm rfl (bd_setM used) rfl rfl ?_
 ·have hlen := w.len
  refine VCall.b0 nofz (fun _ => rfl) ?_
  refine peek_spec R p (R.tok p) (Rd.tok_some hp) 0 rfl ?_
  refine name_spec R p (R.tok p) (Rd.tok_some hp) (by omega) 0 rfl (fun hkd => ?_) (fun hkd => ?_)
  ·by_cases hin : (R.tok p).text ∈ used
   ·obtain ⟨j, hj⟩ := find_some (k := 0) (i := 0) hin
    refine exf (some (j, boolV true)) hj ?_
    refine fail_spec _ (R.tok p).off 5 ?_
    exact ⟨_, _, rfl, rfl, rfl, bd_setM used, .inr (.inl ⟨hkd, hin, rfl, rfl, rfl⟩)⟩
   ·refine exf none (find_none hin) ?_
    refine exf none (find_none hin) ?_
    refine ⟨rdO R (p + 1), setM (used ++ [(R.tok p).text]), ?_, rfl, rfl, bd_setM _, .inl ⟨hkd, hin, rfl, rfl, rfl⟩⟩
    rw [setM_app]
    rfl
  ·exact ⟨_, _, rfl, rfl, rfl, bd_setM used, .inr (.inr ⟨hkd, rfl, rfl, rfl⟩)⟩
 ·rintro r o1 o2 (⟨a, b, rfl, rfl, rfl⟩ | ⟨a, b, rfl, rfl, rfl⟩ | ⟨a, rfl, rfl, rfl⟩)
  ·exact h1 a b
  ·exact h2 a b
  ·exact h3 a
inductive Ty where
 | mk (kind : Nat) (mod name : List UInt8) (args : List Ty) (fields : List (List UInt8 × Ty × Bool))
mutual
inductive TyD : Ty -> List D -> Prop
 | mk {k : Nat} {m n : List UInt8} {args : List Ty} {fields : List (List UInt8 × Ty × Bool)} {a f : D} (ha : ArgsD args a) (hf : FlsD fields f) : TyD (.mk k m n args fields) [.int .i64 (Int.ofNat k), .str m, .str n, a, f]
inductive ArgsD : List Ty -> D -> Prop
 | nil : ArgsD [] .nils
 | ps {b o cap : Nat} {l : List Ty} {els : List (List D)} (h : ArgsL l els) (hne : els ≠ []) : ArgsD l (.ps b o 5 cap els)
inductive ArgsL : List Ty -> List (List D) -> Prop
 | nil : ArgsL [] []
 | cons {t : Ty} {d : List D} {l : List Ty} {els : List (List D)} (h : TyD t d) (hl : ArgsL l els) : ArgsL (t :: l) (d :: els)
inductive FlsD : List (List UInt8 × Ty × Bool) -> D -> Prop
 | nil : FlsD [] .nils
 | ps {b o cap : Nat} {l : List (List UInt8 × Ty × Bool)} {els : List (List D)} (h : FlsL l els) : FlsD l (.ps b o 7 cap els)
inductive FlsL : List (List UInt8 × Ty × Bool) -> List (List D) -> Prop
 | nil : FlsL [] []
 | cons {n : List UInt8} {t : Ty} {o : Bool} {d : List D} {l : List (List UInt8 × Ty × Bool)} {els : List (List D)} (h : TyD t d) (hl : FlsL l els) : FlsL ((n, t, o) :: l) ((.str n :: d ++ [.bool o]) :: els)
end
theorem ArgsL.snoc {l : List Ty} {els : List (List D)} {t : Ty} {d : List D} (h : ArgsL l els) (ht : TyD t d) : ArgsL (l ++ [t]) (els ++ [d]) := by
 induction l generalizing els with
 | nil => cases h; exact .cons ht .nil
 | cons a l ih => cases h with | cons h1 h2 => exact .cons h1 (ih h2)
theorem TyD.five {t : Ty} {d : List D} (h : TyD t d) : ∃ k m n a f, d = [.int .i64 (Int.ofNat k), .str m, .str n, a, f] := by
 cases h with | mk ha hf => exact ⟨_, _, _, _, _, rfl⟩
structure TypOk (ty : Nat -> PR Ty) (R : Rd) (lo : Nat) : Prop where
 lt : ∀ p t q, lo <= p -> p < R.ts.length -> ty p = .ok t q -> p < q /\ q < R.ts.length
 call : ∀ p, lo <= p -> p < R.ts.length -> ∀ (i : Nat) (σ : VS) (K : VCR -> VS -> Prop), nth σ i = some (rdO R p) -> (∀ t d q, ty p = .ok t q -> TyD t d -> K (.ret (.agg (d.map V.d))) (σ.set i (rdO R q))) ->
  (∀ off e q, ty p = .bad off e -> K (.pan (wrongV off e)) (σ.set i (rdO R q))) -> VCall C intr0 F.reader_typ [.bp i 0] σ K
def argsLoop (ty : Nat -> PR Ty) (R : Rd) : Nat -> List Ty -> Nat -> PR (List Ty)
 | 0, _, _ => .bad 0 3
 | f + 1, acc, p => match ty p with
  | .bad o e => .bad o e
  | .ok t q => if isTok (R.tok q) [44] then argsLoop ty R f (acc ++ [t]) (q + 1) else match needF R [[93]] q with
   | .ok _ q' => .ok (acc ++ [t]) q'
   | .bad o e => .bad o e
def argsF (ty : Nat -> PR Ty) (R : Rd) (p : Nat) : PR (List Ty) := if isTok (R.tok p) [91] then argsLoop ty R R.ts.length [] (p + 1) else .ok [] p
def argS (R : Rd) (p : Nat) : List (List D) -> VS
 | [] => [rdO R p, .box [.bp 0 0], .box [.d .nils]]
 | e :: r => [rdO R p, .box [.bp 0 0], .box [.ms 3 5 0 (r.length + 1) (r.length + 1)], .row 5 ((e :: r).map fun d => d.map V.d)]
def zeroTy : List V := [.d (.int .i64 0), .d (.str []), .d (.str []), .d .nils, .d .nils]
def somefz : Nat -> Bool := fun t => Nat.beq t 5 || Nat.beq t 13
def argfz : Nat -> Bool := fun t => Nat.beq t 6
theorem arg_fit {q n c : Nat} (h : c <= q) (h' : q < 4294967296) (hn : n = 1) : (c + n) * 88 <= limit /\ c + n <= limit := by
 unfold limit
 omega
theorem dcells_d (d : List D) : dcells (d.map V.d) = some d := by
 induction d with
 | nil => rfl
 | cons a d ih => simp only [List.map_cons, dcells, ih]
theorem drows_d (els : List (List D)) : drows (els.map fun d => d.map V.d) = some els := by
 induction els with
 | nil => rfl
 | cons a r ih => simp only [List.map_cons, drows, dcells_d, ih]
def argsK (R : Rd) (x : PR (List Ty)) (r : VCR) (σ' : VS) : Prop := match x with
 | .ok l q => σ' = [rdO R q] /\ ∃ d, ArgsD l d /\ r = .ret (.d d)
 | .bad off e => ∃ q, σ' = [rdO R q] /\ r = .pan (wrongV off e)
theorem args_end {R : Rd} {q : Nat} {tl : VS} {l : List Ty} {els : List (List D)} {x : PR (List Ty)} (i n : Nat) (hn : n = els.length) (hr : nth tl i = some (.row 5 (els.map fun d => d.map V.d))) (hL : ArgsL l els) (hne : els ≠ []) (hx : x = .ok l q) :
  VUpd 1 (.ret (.ms (i + 1) 5 0 n n)) (rdO R q :: tl) (argsK R x) := by
 subst hx
 refine VUpd.freeze (i + 1) (es := 5) (l := els) hr (drows_d els) (fun _ => ⟨rfl, by simp [hn]⟩) (fun b => ?_)
 have e : fzCR (i + 1) b els (.ret (.ms (i + 1) 5 0 n n)) = .ret (.d (.ps b (0 * 5) 5 n els)) := by
  show VCR.ret (fzV (i + 1) b els (.ms (i + 1) 5 0 n n)) = _
  rw [fzV, nbeq_self]
  show VCR.ret (.d (.ps b (0 * 5) 5 n ((els.drop 0).take n))) = _
  rw [take_self _ _ hn]
 rw [e]
 refine VUpd.drop 1 rfl (by show (bdO 1 (rdO R q) && bdS 1 (tl.set i .gone) 0) = true; rw [bdS]; rfl) rfl (VUpd.now rfl ?_)
 exact ⟨rfl, _, .ps hL hne, rfl⟩
theorem renL_d (π : Nat -> Nat) (d : List D) : renL π (d.map V.d) = d.map V.d := by
 induction d with
 | nil => rfl
 | cons a d ih => simp only [List.map_cons, renL, ren, ih]
theorem bdL_d (k : Nat) (d : List D) : bdL k (d.map V.d) = true := by
 induction d with
 | nil => rfl
 | cons a d ih => simp only [List.map_cons, bdL, bd, ih]; rfl
theorem renO_d (π : Nat -> Nat) (es : Nat) (els : List (List D)) : renO π (.row es (els.map fun d => d.map V.d)) = .row es (els.map fun d => d.map V.d) := by
 simp only [renO, List.map_map]
 congr 1
 exact List.map_congr_left fun d _ => renL_d π d
theorem bdO_d (k es : Nat) (els : List (List D)) : bdO k (.row es (els.map fun d => d.map V.d)) = true := by
 simp only [bdO, List.all_eq_true, List.mem_map]
 rintro _ ⟨d, _, rfl⟩
 exact bdL_d k d
theorem arg_out (i es : Nat) (r : List (List D)) (d : List D) : some (VObj.box [.ms i es 0 (r.length + 1 + 1) (r.length + 1 + 1)]) = some (VObj.box [.ms i es 0 ((r ++ [d]).length + 1) ((r ++ [d]).length + 1)]) := by simp
theorem arg_lt (r : List (List D)) : r.length + 1 < r.length + 1 + 1 := Nat.lt_succ_self _
theorem arg_zero (e0 : List D) (r : List (List D)) : nth (List.take (r.length + 1) (List.drop 0 (List.map (fun d => List.map V.d d) (e0 :: r))) ++ [zeroTy]) (0 + (r.length + 1)) = some zeroTy := by
 rw [nth_eq, List.getElem?_append_right (by simp)]
 simp
theorem arg_grow (e0 : List D) (r : List (List D)) (d : List D) : (List.take (r.length + 1) (List.drop 0 (List.map (fun d => List.map V.d d) (e0 :: r))) ++ [zeroTy]).set (0 + (r.length + 1)) (d.map V.d) = List.map (fun d => List.map V.d d) (e0 :: (r ++ [d])) := by
 rw [List.drop_zero, List.take_of_length_le (by simp), List.set_append_right _ _ (by simp)]
 simp
set_option maxHeartbeats 4000000 in
theorem args_spec0 (R : Rd) (w : R.Wf) (ty : Nat -> PR Ty) (p : Nat) (hp : p < R.ts.length) (ht : TypOk ty R p) :
  VCall C intr0 F.reader_args [.bp 0 0] [rdO R p] (argsK R (argsF ty R p)) := by
 have hlen := w.len
 refine VCall.b1 nofz (fun _ => rfl) ?_
 refine is_spec R p (R.tok p) [91] (Rd.tok_some hp) 0 rfl ?_
 refine vci (fun h => ?_) (fun h => ?_)
 ·have hw := w.step hp h
  refine VCall.b0 somefz (fun _ => rfl) ?_
  intro b
  refine need_spec R w [[91]] (by decide) p hp _ _ 0 rfl ?_
  rw [needF, if_pos h, needF]
  refine VCode.less (tm0 := [(0, .bp 0 0), (1, .fn F.reader_args_1 [] [.bp 2 0, .bp 1 0])]) ⟨rfl, rfl, trivial⟩ ?_
  refine VCode.iter (fun _ : Nat × List Ty × List (List D) => [(0, .bp 0 0), (1, .fn F.reader_args_1 [] [.bp 2 0, .bp 1 0])]) (fun x => argS R x.1 x.2.2) (fun x => R.ts.length - x.1)
   (fun x => p < x.1 /\ x.1 < R.ts.length /\ x.2.2.length <= x.1 /\ ArgsL x.2.1 x.2.2 /\ ∃ f, R.ts.length - x.1 <= f /\ argsLoop ty R R.ts.length [] (p + 1) = argsLoop ty R f x.2.1 x.1) ?_ (p + 1, [], []) ⟨by show p < p + 1; omega, hw, Nat.zero_le _, .nil, _, by show R.ts.length - (p + 1) <= R.ts.length; omega, rfl⟩
  rintro ⟨q, l, els⟩ ⟨hq0, hq, hal, hL, f, hf, he⟩
  have hq0 : p < q := hq0
  have hq : q < R.ts.length := hq
  have hal : els.length <= q := hal
  have hL : ArgsL l els := hL
  have hf : R.ts.length - q <= f := hf
  have he : argsLoop ty R R.ts.length [] (p + 1) = argsLoop ty R f l q := he
  obtain ⟨f, rfl⟩ : ∃ k, f = k + 1 := ⟨f - 1, by omega⟩
  have hF : argsF ty R p = argsLoop ty R (f + 1) l q := by rw [argsF, if_pos h, he]
  rw [argsLoop] at hF
  cases els with
  | nil =>
   refine VCall.b0 argfz (fun _ => rfl) ?_
   intro b2
   repeat refine vni (by repeat' (first | exact trivial | exact rfl | refine vnf rfl ?_ | refine And.intro ?_ ?_)) ?_
   refine ht.call q (by omega) hq 0 _ _ ?_ (fun t d q1 e1 hd => ?_) (fun off e q1 e1 => ?_)
   ·exact rfl
   ·obtain ⟨k, m, n, a, fl, rfl⟩ := hd.five
    obtain ⟨g1, g2⟩ := ht.lt q t q1 (by omega) hq e1
    repeat first
     | refine vnf rfl ?_
     | refine vni (by repeat' (first | exact trivial | exact rfl | exact Nat.le_of_ble_eq_true rfl | refine vnf rfl ?_ | refine vni (Nat.le_of_ble_eq_true rfl) ?_ | refine exf zeroTy rfl ?_ | refine And.intro ?_ ?_)) ?_
    refine exf zeroTy rfl ?_
    refine skip_spec R q1 (R.tok q1) [44] (Rd.tok_some g2) (by omega) 0 ?_ (fun h2 => ?_) (fun h2 => ?_)
    ·exact rfl
    ·refine ⟨(q1 + 1, l ++ [t], [[.int .i64 (Int.ofNat k), .str m, .str n, a, fl]]), ⟨by show p < q1 + 1; omega, w.step g2 h2, by show 1 <= q1 + 1; omega, hL.snoc hd, f, by show R.ts.length - (q1 + 1) <= f; omega, ?_⟩, ?_, ?_, rfl, rfl⟩
     ·show argsLoop ty R R.ts.length [] (p + 1) = argsLoop ty R f (l ++ [t]) (q1 + 1)
      rw [he, argsLoop, e1]
      simp only [h2, if_true]
     ·show R.ts.length - (q1 + 1) < R.ts.length - q
      omega
     ·exact .same ⟨rfl, rfl, trivial⟩ rfl
    ·intro b3
     refine need_spec R w [[93]] (by decide) q1 g2 _ _ 0 ?_ ?_
     ·exact rfl
     ·cases hn : needF R [[93]] q1 with
      | ok _ q2 =>
       refine args_end (l := l ++ [t]) (els := [[.int .i64 (Int.ofNat k), .str m, .str n, a, fl]]) 2 1 rfl rfl (hL.snoc hd) (by simp) ?_
       rw [hF, e1]
       simp only [h2, hn]
       rfl
      | bad off e =>
       intro q2
       refine VUpd.drop 1 ?_ ?_ ?_ ?_
       iterate 3 exact rfl
       refine VUpd.now rfl ?_
       rw [hF, e1]
       simp only [h2, hn]
       exact ⟨q2, rfl, rfl⟩
   ·refine VUpd.drop 1 ?_ ?_ ?_ ?_
    iterate 3 exact rfl
    refine VUpd.now rfl ?_
    rw [hF, e1]
    exact ⟨q1, rfl, rfl⟩
  | cons e0 r =>
   refine VCall.b0 argfz (fun _ => rfl) ?_
   intro b2
   repeat refine vni (by repeat' (first | exact trivial | exact rfl | refine vnf rfl ?_ | refine And.intro ?_ ?_)) ?_
   refine ht.call q (by omega) hq 0 _ _ ?_ (fun t d q1 e1 hd => ?_) (fun off e q1 e1 => ?_)
   ·exact rfl
   ·obtain ⟨k, m, n, a, fl, rfl⟩ := hd.five
    obtain ⟨g1, g2⟩ := ht.lt q t q1 (by omega) hq e1
    have hr1 : r.length + 1 <= q := hal
    refine vni ?_ ?_
    ·repeat' (first | exact trivial | exact rfl | exact Nat.le_refl _ | exact (arg_fit hr1 (by omega) rfl).1 | exact (arg_fit hr1 (by omega) rfl).2 | (simp only [List.length_map, List.length_cons]; omega) | refine vnf rfl ?_ | refine And.intro ?_ ?_)
    refine vni rfl (vni ⟨rfl, rfl, by simp, Nat.le_refl _, arg_fit hr1 (by omega) rfl⟩ ?_)
    refine vcn rfl (vcn (lit_full (r.length + 1)) ?_)
    refine vni ?_ ?_
    ·repeat' (first | exact trivial | exact rfl | exact Nat.le_of_ble_eq_true rfl | refine vnf rfl ?_ | refine exf zeroTy (arg_zero e0 r) ?_ | refine vni (arg_lt r) ?_ | refine And.intro ?_ ?_)
    refine vnf rfl ?_
    refine vni (arg_lt r) ?_
    refine vni ?_ ?_
    ·repeat' (first | exact trivial | exact rfl | exact Nat.le_of_ble_eq_true rfl | refine vnf rfl ?_ | refine exf zeroTy (arg_zero e0 r) ?_ | refine vni (arg_lt r) ?_ | refine And.intro ?_ ?_)
    refine exf zeroTy (arg_zero e0 r) ?_
    refine skip_spec R q1 (R.tok q1) [44] (Rd.tok_some g2) (by omega) 0 ?_ (fun h2 => ?_) (fun h2 => ?_)
    ·exact rfl
    ·refine ⟨(q1 + 1, l ++ [t], e0 :: (r ++ [[.int .i64 (Int.ofNat k), .str m, .str n, a, fl]])), ⟨by show p < q1 + 1; omega, w.step g2 h2, by show (r ++ [_]).length + 1 <= q1 + 1; simp; omega, hL.snoc hd, f, by show R.ts.length - (q1 + 1) <= f; omega, ?_⟩, ?_, ?_, rfl, rfl⟩
     ·show argsLoop ty R R.ts.length [] (p + 1) = argsLoop ty R f (l ++ [t]) (q1 + 1)
      rw [he, argsLoop, e1]
      simp only [h2, if_true]
     ·show R.ts.length - (q1 + 1) < R.ts.length - q
      omega
     ·refine .pick 3 [0, 1, 2, 4] ⟨rfl, rfl, trivial⟩ rfl rfl rfl rfl rfl (by decide) ⟨rfl, rfl, rfl, rfl, ?_, rfl, ?_, bdO_d _ _ _, trivial⟩
      ·exact arg_out 4 5 r [.int .i64 (Int.ofNat k), .str m, .str n, a, fl]
      ·rw [renO_d]
       exact congrArg (fun x => some (VObj.row 5 x)) (arg_grow e0 r [.int .i64 (Int.ofNat k), .str m, .str n, a, fl])
    ·intro b3
     refine need_spec R w [[93]] (by decide) q1 g2 _ _ 0 ?_ ?_
     ·exact rfl
     ·cases hn : needF R [[93]] q1 with
      | ok _ q2 =>
       refine args_end (l := l ++ [t]) (els := e0 :: (r ++ [[.int .i64 (Int.ofNat k), .str m, .str n, a, fl]])) 3 (r.length + 1 + 1) (by simp) ?_ (hL.snoc hd) (by simp) ?_
       ·exact congrArg (fun x => some (VObj.row 5 x)) (arg_grow e0 r [.int .i64 (Int.ofNat k), .str m, .str n, a, fl])
       ·rw [hF, e1]
        simp only [h2, hn]
        rfl
      | bad off e =>
       intro q2
       refine VUpd.drop 1 ?_ ?_ ?_ ?_
       iterate 3 exact rfl
       refine VUpd.now rfl ?_
       rw [hF, e1]
       simp only [h2, hn]
       exact ⟨q2, rfl, rfl⟩
   ·refine VUpd.drop 1 ?_ ?_ ?_ ?_
    iterate 3 exact rfl
    refine VUpd.now rfl ?_
    rw [hF, e1]
    exact ⟨q1, rfl, rfl⟩
 ·refine VUpd.drop 1 ?_ ?_ ?_ ?_
  iterate 3 exact rfl
  refine VUpd.now rfl ?_
  rw [argsF, if_neg (by rw [h]; decide)]
  exact ⟨rfl, .nils, .nil, rfl⟩
set_option maxHeartbeats 4000000 in
theorem args_spec (R : Rd) (w : R.Wf) (ty : Nat -> PR Ty) (p : Nat) (hp : p < R.ts.length) (ht : TypOk ty R p) (i : Nat) {σ : VS} {K : VCR -> VS -> Prop} (hσ : nth σ i = some (rdO R p))
  (h1 : ∀ l d q, argsF ty R p = .ok l q -> ArgsD l d -> K (.ret (.d d)) (σ.set i (rdO R q))) (h2 : ∀ off e q, argsF ty R p = .bad off e -> K (.pan (wrongV off e)) (σ.set i (rdO R q))) : VCall C intr0 F.reader_args [.bp i 0] σ K := by
 refine VCall.one (args0 := [.bp 0 0]) (P := fun r cs => argsK R (argsF ty R p) r [.box cs]) ((args_spec0 R w ty p hp ht).mono fun r σ' h => ?_) i hσ rfl rfl rfl (fun r cs' h => ?_)
 ·have h' := h
  unfold argsK at h
  split at h
  ·obtain ⟨rfl, d, h2, rfl⟩ := h
   exact ⟨_, rfl, rfl, rfl, h'⟩
  ·obtain ⟨q, rfl, rfl⟩ := h
   exact ⟨_, rfl, rfl, rfl, h'⟩
 ·unfold argsK at h
  split at h
  ·rename_i l q e
   obtain ⟨e2, d, hd, rfl⟩ := h
   have : cs' = rdC R q := by injection e2 with e3; injection e3
   subst this
   exact h1 l d q e hd
  ·rename_i off er e
   obtain ⟨q, e2, rfl⟩ := h
   have : cs' = rdC R q := by injection e2 with e3; injection e3
   subst this
   exact h2 off er q e
def bracketF (ty : Nat -> PR Ty) (R : Rd) (p : Nat) : PR Ty := match needF R [[91]] p with
 | .bad o e => .bad o e
 | .ok _ q => match ty q with
  | .bad o e => .bad o e
  | .ok t q1 => match needF R [[93]] q1 with
   | .bad o e => .bad o e
   | .ok _ q2 => .ok t q2
def tyK (R : Rd) (x : PR Ty) (r : VCR) (cs : List V) : Prop := match x with
 | .ok t q => cs = rdC R q /\ ∃ d, TyD t d /\ r = .ret (.agg (d.map V.d))
 | .bad off e => ∃ q, cs = rdC R q /\ r = .pan (wrongV off e)
def brfz : Nat -> Bool := fun t => Nat.beq t 5 || Nat.beq t 10
theorem needF_mono {R : Rd} : ∀ (l : List (List UInt8)) (p q : Nat), needF R l p = .ok () q -> q = p + l.length := by
 intro l
 induction l with
 | nil => intro p q h; cases h; rfl
 | cons s l ih =>
  intro p q h
  rw [needF] at h
  split at h
  ·rw [ih _ _ h, List.length_cons]; omega
  ·cases h
set_option maxHeartbeats 4000000 in
theorem bracket_spec0 (R : Rd) (w : R.Wf) (ty : Nat -> PR Ty) (p : Nat) (hp : p < R.ts.length) (ht : TypOk ty R p) :
  VCall C intr0 F.reader_bracket [.bp 0 0] [rdO R p] fun r σ' => ∃ cs', σ' = [.box cs'] /\ closedCR r = true /\ bdL 0 cs' = true /\ tyK R (bracketF ty R p) r cs' := by
 refine VCall.b1 brfz (fun _ => rfl) ?_
 intro b
 refine need_spec R w [[91]] (by decide) p hp _ _ 0 rfl ?_
 cases hn : needF R [[91]] p with
 | bad off e =>
  intro q
  refine VUpd.drop 1 ?_ ?_ ?_ ?_
  iterate 3 exact rfl
  refine VUpd.now rfl ⟨_, rfl, rfl, rfl, ?_⟩
  rw [bracketF, hn]
  exact ⟨q, rfl, rfl⟩
 | ok _ q =>
  have hq := needF_lt w _ _ _ hp hn
  have hpq := needF_mono _ _ _ hn
  have hpq : p <= q := by rw [hpq]; omega
  refine ht.call q hpq hq 0 _ _ ?_ (fun t d q1 e1 hd => ?_) (fun off e q1 e1 => ?_)
  ·exact rfl
  ·obtain ⟨k, m, n, a, fl, rfl⟩ := hd.five
   obtain ⟨g1, g2⟩ := ht.lt q t q1 hpq hq e1
   intro b3
   refine need_spec R w [[93]] (by decide) q1 g2 _ _ 0 ?_ ?_
   ·exact rfl
   ·cases hn2 : needF R [[93]] q1 with
    | bad off e =>
     intro q2
     refine VUpd.drop 1 ?_ ?_ ?_ ?_
     iterate 3 exact rfl
     refine VUpd.now rfl ⟨_, rfl, rfl, rfl, ?_⟩
     rw [bracketF, hn]
     simp only [e1, hn2]
     exact ⟨q2, rfl, rfl⟩
    | ok _ q2 =>
     refine VUpd.drop 1 ?_ ?_ ?_ ?_
     iterate 3 exact rfl
     refine VUpd.now rfl ⟨_, rfl, rfl, rfl, ?_⟩
     rw [bracketF, hn]
     simp only [e1, hn2]
     exact ⟨rfl, _, hd, rfl⟩
  ·refine VUpd.drop 1 ?_ ?_ ?_ ?_
   iterate 3 exact rfl
   refine VUpd.now rfl ⟨_, rfl, rfl, rfl, ?_⟩
   rw [bracketF, hn]
   simp only [e1]
   exact ⟨q1, rfl, rfl⟩
end Go.Proofs.YthfehkcfhiilfaaGreatDoor
