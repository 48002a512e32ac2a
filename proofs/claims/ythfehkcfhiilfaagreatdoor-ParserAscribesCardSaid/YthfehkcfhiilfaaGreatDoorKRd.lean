/- Contract of the reader's typ, part two. -/
import Derived.Test.YthfehkcfhiilfaaGreatDoorKRc
namespace Go.Proofs.YthfehkcfhiilfaaGreatDoor set_option linter.unusedSimpArgs false set_option linter.unusedVariables false
open Go.AM Go.VM
set_option maxRecDepth 100000 in
set_option maxHeartbeats 16000000 in
theorem typ_c8 (R : Rd) (w : R.Wf) (f p : Nat) (hp : p < R.ts.length) (ht : TypOk (typF R f) R (p + 1)) (kind : Nat) (text : List UInt8) (off : Nat) (htk : R.ts[p]? = some ⟨kind, text, off⟩) (hF : typF R (f + 1) p = typB (typF R f) R kind text off (p + 1)) (h6 : kind = 6) (ht6 : text = [123]) :
  VCall C intr0 F.reader_typ [.bp 0 0] [rdO R p] fun r σ' => ∃ cs', σ' = [.box cs'] /\ closedCR r = true /\ bdL 0 cs' = true /\ tyK R (typF R (f + 1) p) r cs' := by
 have hlen := w.len
 have hgo : kind ≠ 0 -> p + 1 < R.ts.length := fun h => w.go p _ htk h
 have hst : kind ≠ 0 -> stepP ⟨kind, text, off⟩ p = p + 1 := fun h => if_neg h
 refine VCall.b1 typfz (fun _ => rfl) ?_
 refine take_spec R p _ htk (by omega) 0 rfl ?_
 first | have hq0 : p + 1 < R.ts.length := hgo (by omega) | skip
 first | rw [hst (by omega)] | skip
 subst h6
 subst ht6
 have hfd : vfind .string (strV [123]) baseE 0 = some none := rfl
 repeat refine vni (by repeat' (first | exact trivial | exact rfl | refine vnf rfl ?_ | refine exf _ hfd ?_ | refine And.intro ?_ ?_)) ?_
 refine VCall.b0 nofz (fun _ => rfl) ?_
 refine exf none rfl ?_
 refine exf none rfl ?_
 refine exf none rfl ?_
 refine exf none rfl ?_
 refine exf none rfl ?_
 refine exf _ hfd ?_
 repeat refine vni (by repeat' (first | exact trivial | exact rfl | refine vnf rfl ?_ | refine exf _ hfd ?_ | refine And.intro ?_ ?_)) ?_
 refine fields_spec R w (typF R f) [44] [125] false (p + 1) hq0 ht 0 ?_ (fun l d q e1 hd => ?_) (fun off e q e1 => ?_)
 ·exact rfl
 ·refine VUpd.drop 1 ?_ ?_ ?_ ?_
  iterate 3 exact rfl
  refine VUpd.now rfl ⟨_, rfl, rfl, rfl, ?_⟩
  rw [hF]
  simp only [typB, if_true, if_false, reduceIte, Nat.reduceEqDiff, PR.map, e1]
  exact ⟨rfl, _, .mk .nil hd, rfl⟩
 ·refine VUpd.drop 1 ?_ ?_ ?_ ?_
  iterate 3 exact rfl
  refine VUpd.now rfl ⟨_, rfl, rfl, rfl, ?_⟩
  rw [hF]
  simp only [typB, if_true, if_false, reduceIte, Nat.reduceEqDiff, PR.map, e1]
  exact ⟨q, rfl, rfl⟩
set_option maxRecDepth 100000 in
set_option maxHeartbeats 16000000 in
theorem typ_c9 (R : Rd) (w : R.Wf) (f p : Nat) (hp : p < R.ts.length) (ht : TypOk (typF R f) R (p + 1)) (kind : Nat) (text : List UInt8) (off : Nat) (htk : R.ts[p]? = some ⟨kind, text, off⟩) (hF : typF R (f + 1) p = typB (typF R f) R kind text off (p + 1)) (h6 : kind = 6) (ht6 : text = [60]) :
  VCall C intr0 F.reader_typ [.bp 0 0] [rdO R p] fun r σ' => ∃ cs', σ' = [.box cs'] /\ closedCR r = true /\ bdL 0 cs' = true /\ tyK R (typF R (f + 1) p) r cs' := by
 have hlen := w.len
 have hgo : kind ≠ 0 -> p + 1 < R.ts.length := fun h => w.go p _ htk h
 have hst : kind ≠ 0 -> stepP ⟨kind, text, off⟩ p = p + 1 := fun h => if_neg h
 refine VCall.b1 typfz (fun _ => rfl) ?_
 refine take_spec R p _ htk (by omega) 0 rfl ?_
 first | have hq0 : p + 1 < R.ts.length := hgo (by omega) | skip
 first | rw [hst (by omega)] | skip
 subst h6
 subst ht6
 have hfd : vfind .string (strV [60]) baseE 0 = some none := rfl
 repeat refine vni (by repeat' (first | exact trivial | exact rfl | refine vnf rfl ?_ | refine exf _ hfd ?_ | refine And.intro ?_ ?_)) ?_
 refine VCall.b0 nofz (fun _ => rfl) ?_
 refine exf none rfl ?_
 refine exf none rfl ?_
 refine exf none rfl ?_
 refine exf none rfl ?_
 refine exf none rfl ?_
 refine exf _ hfd ?_
 repeat refine vni (by repeat' (first | exact trivial | exact rfl | refine vnf rfl ?_ | refine exf _ hfd ?_ | refine And.intro ?_ ?_)) ?_
 refine fields_spec R w (typF R f) [124] [62] false (p + 1) hq0 ht 0 ?_ (fun l d q e1 hd => ?_) (fun off e q e1 => ?_)
 ·exact rfl
 ·refine VUpd.drop 1 ?_ ?_ ?_ ?_
  iterate 3 exact rfl
  refine VUpd.now rfl ⟨_, rfl, rfl, rfl, ?_⟩
  rw [hF]
  simp only [typB, if_true, if_false, reduceIte, Nat.reduceEqDiff, PR.map, e1]
  exact ⟨rfl, _, .mk .nil hd, rfl⟩
 ·refine VUpd.drop 1 ?_ ?_ ?_ ?_
  iterate 3 exact rfl
  refine VUpd.now rfl ⟨_, rfl, rfl, rfl, ?_⟩
  rw [hF]
  simp only [typB, if_true, if_false, reduceIte, Nat.reduceEqDiff, PR.map, e1]
  exact ⟨q, rfl, rfl⟩
set_option maxRecDepth 100000 in
set_option maxHeartbeats 16000000 in
theorem typ_c10 (R : Rd) (w : R.Wf) (f p : Nat) (hp : p < R.ts.length) (ht : TypOk (typF R f) R (p + 1)) (kind : Nat) (text : List UInt8) (off : Nat) (htk : R.ts[p]? = some ⟨kind, text, off⟩) (hF : typF R (f + 1) p = typB (typF R f) R kind text off (p + 1)) (h6 : kind = 6) (hc : text ≠ [123]) (hv : text ≠ [60]) (hfd : vfind .string (strV text) baseE 0 = some none) :
  VCall C intr0 F.reader_typ [.bp 0 0] [rdO R p] fun r σ' => ∃ cs', σ' = [.box cs'] /\ closedCR r = true /\ bdL 0 cs' = true /\ tyK R (typF R (f + 1) p) r cs' := by
 have hlen := w.len
 have hgo : kind ≠ 0 -> p + 1 < R.ts.length := fun h => w.go p _ htk h
 have hst : kind ≠ 0 -> stepP ⟨kind, text, off⟩ p = p + 1 := fun h => if_neg h
 refine VCall.b1 typfz (fun _ => rfl) ?_
 refine take_spec R p _ htk (by omega) 0 rfl ?_
 first | have hq0 : p + 1 < R.ts.length := hgo (by omega) | skip
 first | rw [hst (by omega)] | skip
 subst h6
 repeat refine vni (by repeat' (first | exact trivial | exact rfl | refine vnf rfl ?_ | refine exf _ hfd ?_ | refine And.intro ?_ ?_)) ?_
 refine VCall.b0 nofz (fun _ => rfl) ?_
 refine exf none rfl ?_
 refine exf none rfl ?_
 refine exf none rfl ?_
 refine exf none rfl ?_
 refine exf none rfl ?_
 refine exf _ hfd ?_
 repeat refine vni (by repeat' (first | exact trivial | exact rfl | refine vnf rfl ?_ | refine exf _ hfd ?_ | refine And.intro ?_ ?_)) ?_
 refine vcn (decide_eq_false hc) ?_
 repeat refine vcn (decide_eq_false hc) ?_
 refine vcn (decide_eq_false hv) ?_
 repeat refine vcn (decide_eq_false hv) ?_
 refine fail_spec _ off 3 ?_
 refine VUpd.drop 1 ?_ ?_ ?_ ?_
 iterate 3 exact rfl
 refine VUpd.now rfl ⟨_, rfl, rfl, rfl, ?_⟩
 rw [hF]
 simp only [typB, if_true, if_false, reduceIte, Nat.reduceEqDiff, PR.map, hc, hv]
 exact ⟨_, rfl, rfl⟩
set_option maxRecDepth 100000 in
set_option maxHeartbeats 16000000 in
theorem typ_c11 (R : Rd) (w : R.Wf) (f p : Nat) (hp : p < R.ts.length) (ht : TypOk (typF R f) R (p + 1)) (kind : Nat) (text : List UInt8) (off : Nat) (htk : R.ts[p]? = some ⟨kind, text, off⟩) (hF : typF R (f + 1) p = typB (typF R f) R kind text off (p + 1)) (h6 : kind = 6) (hc : text ≠ [123]) (hv : text ≠ [60]) (jj kk : Nat) (hfd : vfind .string (strV text) baseE 0 = some (some (jj, intV kk))) :
  VCall C intr0 F.reader_typ [.bp 0 0] [rdO R p] fun r σ' => ∃ cs', σ' = [.box cs'] /\ closedCR r = true /\ bdL 0 cs' = true /\ tyK R (typF R (f + 1) p) r cs' := by
 have hlen := w.len
 have hgo : kind ≠ 0 -> p + 1 < R.ts.length := fun h => w.go p _ htk h
 have hst : kind ≠ 0 -> stepP ⟨kind, text, off⟩ p = p + 1 := fun h => if_neg h
 refine VCall.b1 typfz (fun _ => rfl) ?_
 refine take_spec R p _ htk (by omega) 0 rfl ?_
 first | have hq0 : p + 1 < R.ts.length := hgo (by omega) | skip
 first | rw [hst (by omega)] | skip
 subst h6
 repeat refine vni (by repeat' (first | exact trivial | exact rfl | refine vnf rfl ?_ | refine exf _ hfd ?_ | refine And.intro ?_ ?_)) ?_
 refine VCall.b0 nofz (fun _ => rfl) ?_
 refine exf none rfl ?_
 refine exf none rfl ?_
 refine exf none rfl ?_
 refine exf none rfl ?_
 refine exf none rfl ?_
 refine exf _ hfd ?_
 repeat refine vni (by repeat' (first | exact trivial | exact rfl | refine vnf rfl ?_ | refine exf _ hfd ?_ | refine And.intro ?_ ?_)) ?_
 refine vcn (decide_eq_false hc) ?_
 repeat refine vcn (decide_eq_false hc) ?_
 refine vcn (decide_eq_false hv) ?_
 repeat refine vcn (decide_eq_false hv) ?_
 refine fail_spec _ off 3 ?_
 refine VUpd.drop 1 ?_ ?_ ?_ ?_
 iterate 3 exact rfl
 refine VUpd.now rfl ⟨_, rfl, rfl, rfl, ?_⟩
 rw [hF]
 simp only [typB, if_true, if_false, reduceIte, Nat.reduceEqDiff, PR.map, hc, hv]
 exact ⟨_, rfl, rfl⟩
set_option maxRecDepth 100000 in
set_option maxHeartbeats 16000000 in
theorem typ_c12 (R : Rd) (w : R.Wf) (f p : Nat) (hp : p < R.ts.length) (ht : TypOk (typF R f) R (p + 1)) (kind : Nat) (text : List UInt8) (off : Nat) (htk : R.ts[p]? = some ⟨kind, text, off⟩) (hF : typF R (f + 1) p = typB (typF R f) R kind text off (p + 1)) (h2 : kind = 2) (hfd : vfind .string (strV text) baseE 0 = some none) :
  VCall C intr0 F.reader_typ [.bp 0 0] [rdO R p] fun r σ' => ∃ cs', σ' = [.box cs'] /\ closedCR r = true /\ bdL 0 cs' = true /\ tyK R (typF R (f + 1) p) r cs' := by
 have hlen := w.len
 have hgo : kind ≠ 0 -> p + 1 < R.ts.length := fun h => w.go p _ htk h
 have hst : kind ≠ 0 -> stepP ⟨kind, text, off⟩ p = p + 1 := fun h => if_neg h
 refine VCall.b1 typfz (fun _ => rfl) ?_
 refine take_spec R p _ htk (by omega) 0 rfl ?_
 first | have hq0 : p + 1 < R.ts.length := hgo (by omega) | skip
 first | rw [hst (by omega)] | skip
 subst h2
 repeat refine vni (by repeat' (first | exact trivial | exact rfl | refine vnf rfl ?_ | refine exf _ hfd ?_ | refine And.intro ?_ ?_)) ?_
 refine VCall.b0 nofz (fun _ => rfl) ?_
 refine exf none rfl ?_
 refine exf none rfl ?_
 refine exf none rfl ?_
 refine exf none rfl ?_
 refine exf none rfl ?_
 refine exf _ hfd ?_
 repeat refine vni (by repeat' (first | exact trivial | exact rfl | refine vnf rfl ?_ | refine exf _ hfd ?_ | refine And.intro ?_ ?_)) ?_
 repeat refine vni (by repeat' (first | exact trivial | exact rfl | refine vnf rfl ?_ | refine exf _ hfd ?_ | refine And.intro ?_ ?_)) ?_
 refine args_spec R w (typF R f) (p + 1) hq0 ht 0 ?_ (fun l d q e1 hd => ?_) (fun off e q e1 => ?_)
 ·exact rfl
 ·repeat refine vni (by repeat' (first | exact trivial | exact rfl | refine vnf rfl ?_ | refine exf _ hfd ?_ | refine And.intro ?_ ?_)) ?_
  refine VUpd.drop 1 ?_ ?_ ?_ ?_
  iterate 3 exact rfl
  refine VUpd.now rfl ⟨_, rfl, rfl, rfl, ?_⟩
  rw [hF]
  simp only [typB, if_true, if_false, reduceIte, Nat.reduceEqDiff, PR.map, e1]
  exact ⟨rfl, _, .mk hd .nil, rfl⟩
 ·refine VUpd.drop 1 ?_ ?_ ?_ ?_
  iterate 3 exact rfl
  refine VUpd.now rfl ⟨_, rfl, rfl, rfl, ?_⟩
  rw [hF]
  simp only [typB, if_true, if_false, reduceIte, Nat.reduceEqDiff, PR.map, e1]
  exact ⟨q, rfl, rfl⟩
set_option maxRecDepth 100000 in
set_option maxHeartbeats 16000000 in
theorem typ_c13 (R : Rd) (w : R.Wf) (f p : Nat) (hp : p < R.ts.length) (ht : TypOk (typF R f) R (p + 1)) (kind : Nat) (text : List UInt8) (off : Nat) (htk : R.ts[p]? = some ⟨kind, text, off⟩) (hF : typF R (f + 1) p = typB (typF R f) R kind text off (p + 1)) (h2 : kind = 2) (jj kk : Nat) (hfd : vfind .string (strV text) baseE 0 = some (some (jj, intV kk))) :
  VCall C intr0 F.reader_typ [.bp 0 0] [rdO R p] fun r σ' => ∃ cs', σ' = [.box cs'] /\ closedCR r = true /\ bdL 0 cs' = true /\ tyK R (typF R (f + 1) p) r cs' := by
 have hlen := w.len
 have hgo : kind ≠ 0 -> p + 1 < R.ts.length := fun h => w.go p _ htk h
 have hst : kind ≠ 0 -> stepP ⟨kind, text, off⟩ p = p + 1 := fun h => if_neg h
 refine VCall.b1 typfz (fun _ => rfl) ?_
 refine take_spec R p _ htk (by omega) 0 rfl ?_
 first | have hq0 : p + 1 < R.ts.length := hgo (by omega) | skip
 first | rw [hst (by omega)] | skip
 subst h2
 repeat refine vni (by repeat' (first | exact trivial | exact rfl | refine vnf rfl ?_ | refine exf _ hfd ?_ | refine And.intro ?_ ?_)) ?_
 refine VCall.b0 nofz (fun _ => rfl) ?_
 refine exf none rfl ?_
 refine exf none rfl ?_
 refine exf none rfl ?_
 refine exf none rfl ?_
 refine exf none rfl ?_
 refine exf _ hfd ?_
 repeat refine vni (by repeat' (first | exact trivial | exact rfl | refine vnf rfl ?_ | refine exf _ hfd ?_ | refine And.intro ?_ ?_)) ?_
 repeat refine vni (by repeat' (first | exact trivial | exact rfl | refine vnf rfl ?_ | refine exf _ hfd ?_ | refine And.intro ?_ ?_)) ?_
 refine args_spec R w (typF R f) (p + 1) hq0 ht 0 ?_ (fun l d q e1 hd => ?_) (fun off e q e1 => ?_)
 ·exact rfl
 ·repeat refine vni (by repeat' (first | exact trivial | exact rfl | refine vnf rfl ?_ | refine exf _ hfd ?_ | refine And.intro ?_ ?_)) ?_
  refine VUpd.drop 1 ?_ ?_ ?_ ?_
  iterate 3 exact rfl
  refine VUpd.now rfl ⟨_, rfl, rfl, rfl, ?_⟩
  rw [hF]
  simp only [typB, if_true, if_false, reduceIte, Nat.reduceEqDiff, PR.map, e1]
  exact ⟨rfl, _, .mk hd .nil, rfl⟩
 ·refine VUpd.drop 1 ?_ ?_ ?_ ?_
  iterate 3 exact rfl
  refine VUpd.now rfl ⟨_, rfl, rfl, rfl, ?_⟩
  rw [hF]
  simp only [typB, if_true, if_false, reduceIte, Nat.reduceEqDiff, PR.map, e1]
  exact ⟨q, rfl, rfl⟩
set_option maxRecDepth 100000 in
set_option maxHeartbeats 16000000 in
theorem typ_c14 (R : Rd) (w : R.Wf) (f p : Nat) (hp : p < R.ts.length) (ht : TypOk (typF R f) R (p + 1)) (kind : Nat) (text : List UInt8) (off : Nat) (htk : R.ts[p]? = some ⟨kind, text, off⟩) (hF : typF R (f + 1) p = typB (typF R f) R kind text off (p + 1)) (h1 : kind = 1) (hfd : vfind .string (strV text) baseE 0 = some none) :
  VCall C intr0 F.reader_typ [.bp 0 0] [rdO R p] fun r σ' => ∃ cs', σ' = [.box cs'] /\ closedCR r = true /\ bdL 0 cs' = true /\ tyK R (typF R (f + 1) p) r cs' := by
 have hlen := w.len
 have hgo : kind ≠ 0 -> p + 1 < R.ts.length := fun h => w.go p _ htk h
 have hst : kind ≠ 0 -> stepP ⟨kind, text, off⟩ p = p + 1 := fun h => if_neg h
 refine VCall.b1 typfz (fun _ => rfl) ?_
 refine take_spec R p _ htk (by omega) 0 rfl ?_
 first | have hq0 : p + 1 < R.ts.length := hgo (by omega) | skip
 first | rw [hst (by omega)] | skip
 subst h1
 repeat refine vni (by repeat' (first | exact trivial | exact rfl | refine vnf rfl ?_ | refine exf _ hfd ?_ | refine And.intro ?_ ?_)) ?_
 refine VCall.b0 nofz (fun _ => rfl) ?_
 refine exf none rfl ?_
 refine exf none rfl ?_
 refine exf none rfl ?_
 refine exf none rfl ?_
 refine exf none rfl ?_
 refine exf _ hfd ?_
 repeat refine vni (by repeat' (first | exact trivial | exact rfl | refine vnf rfl ?_ | refine exf _ hfd ?_ | refine And.intro ?_ ?_)) ?_
 intro b
 refine need_spec R w [[58, 58]] (by decide) (p + 1) hq0 _ _ 0 ?_ ?_
 ·exact rfl
 cases hn : needF R [[58, 58]] (p + 1) with
 | bad off e =>
  intro q
  refine VUpd.drop 1 ?_ ?_ ?_ ?_
  iterate 3 exact rfl
  refine VUpd.now rfl ⟨_, rfl, rfl, rfl, ?_⟩
  rw [hF]
  simp only [typB, if_true, if_false, reduceIte, Nat.reduceEqDiff, PR.map, hn]
  exact ⟨q, rfl, rfl⟩
 | ok _ q1 =>
  have hq1 := needF_lt w _ _ _ hq0 hn
  have hm1 : p + 1 <= q1 := by rw [needF_mono _ _ _ hn]; omega
  refine token_spec R q1 2 (R.tok q1) (Rd.tok_some hq1) (by omega) 0 ?_ (fun hk2 => ?_) (fun hk2 => ?_)
  ·exact rfl
  ·have hq2 : q1 + 1 < R.ts.length := w.go q1 _ (Rd.tok_some hq1) (by omega)
   rw [show stepP (R.tok q1) q1 = q1 + 1 from if_neg (by omega)]
   repeat refine vni (by repeat' (first | exact trivial | exact rfl | refine vnf rfl ?_ | refine exf _ hfd ?_ | refine And.intro ?_ ?_)) ?_
   refine args_spec R w (typF R f) (q1 + 1) hq2 (ht.up (by omega)) 0 ?_ (fun l d q e1 hd => ?_) (fun off e q e1 => ?_)
   ·exact rfl
   ·repeat refine vni (by repeat' (first | exact trivial | exact rfl | refine vnf rfl ?_ | refine exf _ hfd ?_ | refine And.intro ?_ ?_)) ?_
    refine VUpd.drop 1 ?_ ?_ ?_ ?_
    iterate 3 exact rfl
    refine VUpd.now rfl ⟨_, rfl, rfl, rfl, ?_⟩
    rw [hF]
    simp only [typB, if_true, if_false, reduceIte, Nat.reduceEqDiff, PR.map, hn, hk2, ne_eq, not_true, e1]
    exact ⟨rfl, _, .mk hd .nil, rfl⟩
   ·refine VUpd.drop 1 ?_ ?_ ?_ ?_
    iterate 3 exact rfl
    refine VUpd.now rfl ⟨_, rfl, rfl, rfl, ?_⟩
    rw [hF]
    simp only [typB, if_true, if_false, reduceIte, Nat.reduceEqDiff, PR.map, hn, hk2, ne_eq, not_true, e1]
    exact ⟨q, rfl, rfl⟩
  ·refine VUpd.drop 1 ?_ ?_ ?_ ?_
   iterate 3 exact rfl
   refine VUpd.now rfl ⟨_, rfl, rfl, rfl, ?_⟩
   rw [hF]
   simp only [typB, if_true, if_false, reduceIte, Nat.reduceEqDiff, PR.map, hn, hk2, ne_eq, not_false_iff]
   exact ⟨_, rfl, rfl⟩
set_option maxRecDepth 100000 in
set_option maxHeartbeats 16000000 in
theorem typ_c15 (R : Rd) (w : R.Wf) (f p : Nat) (hp : p < R.ts.length) (ht : TypOk (typF R f) R (p + 1)) (kind : Nat) (text : List UInt8) (off : Nat) (htk : R.ts[p]? = some ⟨kind, text, off⟩) (hF : typF R (f + 1) p = typB (typF R f) R kind text off (p + 1)) (h1 : kind = 1) (jj kk : Nat) (hfd : vfind .string (strV text) baseE 0 = some (some (jj, intV kk))) :
  VCall C intr0 F.reader_typ [.bp 0 0] [rdO R p] fun r σ' => ∃ cs', σ' = [.box cs'] /\ closedCR r = true /\ bdL 0 cs' = true /\ tyK R (typF R (f + 1) p) r cs' := by
 have hlen := w.len
 have hgo : kind ≠ 0 -> p + 1 < R.ts.length := fun h => w.go p _ htk h
 have hst : kind ≠ 0 -> stepP ⟨kind, text, off⟩ p = p + 1 := fun h => if_neg h
 refine VCall.b1 typfz (fun _ => rfl) ?_
 refine take_spec R p _ htk (by omega) 0 rfl ?_
 first | have hq0 : p + 1 < R.ts.length := hgo (by omega) | skip
 first | rw [hst (by omega)] | skip
 subst h1
 repeat refine vni (by repeat' (first | exact trivial | exact rfl | refine vnf rfl ?_ | refine exf _ hfd ?_ | refine And.intro ?_ ?_)) ?_
 refine VCall.b0 nofz (fun _ => rfl) ?_
 refine exf none rfl ?_
 refine exf none rfl ?_
 refine exf none rfl ?_
 refine exf none rfl ?_
 refine exf none rfl ?_
 refine exf _ hfd ?_
 repeat refine vni (by repeat' (first | exact trivial | exact rfl | refine vnf rfl ?_ | refine exf _ hfd ?_ | refine And.intro ?_ ?_)) ?_
 intro b
 refine need_spec R w [[58, 58]] (by decide) (p + 1) hq0 _ _ 0 ?_ ?_
 ·exact rfl
 cases hn : needF R [[58, 58]] (p + 1) with
 | bad off e =>
  intro q
  refine VUpd.drop 1 ?_ ?_ ?_ ?_
  iterate 3 exact rfl
  refine VUpd.now rfl ⟨_, rfl, rfl, rfl, ?_⟩
  rw [hF]
  simp only [typB, if_true, if_false, reduceIte, Nat.reduceEqDiff, PR.map, hn]
  exact ⟨q, rfl, rfl⟩
 | ok _ q1 =>
  have hq1 := needF_lt w _ _ _ hq0 hn
  have hm1 : p + 1 <= q1 := by rw [needF_mono _ _ _ hn]; omega
  refine token_spec R q1 2 (R.tok q1) (Rd.tok_some hq1) (by omega) 0 ?_ (fun hk2 => ?_) (fun hk2 => ?_)
  ·exact rfl
  ·have hq2 : q1 + 1 < R.ts.length := w.go q1 _ (Rd.tok_some hq1) (by omega)
   rw [show stepP (R.tok q1) q1 = q1 + 1 from if_neg (by omega)]
   repeat refine vni (by repeat' (first | exact trivial | exact rfl | refine vnf rfl ?_ | refine exf _ hfd ?_ | refine And.intro ?_ ?_)) ?_
   refine args_spec R w (typF R f) (q1 + 1) hq2 (ht.up (by omega)) 0 ?_ (fun l d q e1 hd => ?_) (fun off e q e1 => ?_)
   ·exact rfl
   ·repeat refine vni (by repeat' (first | exact trivial | exact rfl | refine vnf rfl ?_ | refine exf _ hfd ?_ | refine And.intro ?_ ?_)) ?_
    refine VUpd.drop 1 ?_ ?_ ?_ ?_
    iterate 3 exact rfl
    refine VUpd.now rfl ⟨_, rfl, rfl, rfl, ?_⟩
    rw [hF]
    simp only [typB, if_true, if_false, reduceIte, Nat.reduceEqDiff, PR.map, hn, hk2, ne_eq, not_true, e1]
    exact ⟨rfl, _, .mk hd .nil, rfl⟩
   ·refine VUpd.drop 1 ?_ ?_ ?_ ?_
    iterate 3 exact rfl
    refine VUpd.now rfl ⟨_, rfl, rfl, rfl, ?_⟩
    rw [hF]
    simp only [typB, if_true, if_false, reduceIte, Nat.reduceEqDiff, PR.map, hn, hk2, ne_eq, not_true, e1]
    exact ⟨q, rfl, rfl⟩
  ·refine VUpd.drop 1 ?_ ?_ ?_ ?_
   iterate 3 exact rfl
   refine VUpd.now rfl ⟨_, rfl, rfl, rfl, ?_⟩
   rw [hF]
   simp only [typB, if_true, if_false, reduceIte, Nat.reduceEqDiff, PR.map, hn, hk2, ne_eq, not_false_iff]
   exact ⟨_, rfl, rfl⟩
set_option maxRecDepth 100000 in
set_option maxHeartbeats 16000000 in
theorem typ_c16 (R : Rd) (w : R.Wf) (f p : Nat) (hp : p < R.ts.length) (ht : TypOk (typF R f) R (p + 1)) (kind : Nat) (text : List UInt8) (off : Nat) (htk : R.ts[p]? = some ⟨kind, text, off⟩) (hF : typF R (f + 1) p = typB (typF R f) R kind text off (p + 1)) (n5 : kind ≠ 5) (n6 : kind ≠ 6) (n2 : kind ≠ 2) (n1 : kind ≠ 1) (hfd : vfind .string (strV text) baseE 0 = some none) :
  VCall C intr0 F.reader_typ [.bp 0 0] [rdO R p] fun r σ' => ∃ cs', σ' = [.box cs'] /\ closedCR r = true /\ bdL 0 cs' = true /\ tyK R (typF R (f + 1) p) r cs' := by
 have hlen := w.len
 have hgo : kind ≠ 0 -> p + 1 < R.ts.length := fun h => w.go p _ htk h
 have hst : kind ≠ 0 -> stepP ⟨kind, text, off⟩ p = p + 1 := fun h => if_neg h
 refine VCall.b1 typfz (fun _ => rfl) ?_
 refine take_spec R p _ htk (by omega) 0 rfl ?_
 first | have hq0 : p + 1 < R.ts.length := hgo (by omega) | skip
 first | rw [hst (by omega)] | skip
 skip
 repeat refine vni (by repeat' (first | exact trivial | exact rfl | refine vnf rfl ?_ | refine exf _ hfd ?_ | refine And.intro ?_ ?_)) ?_
 refine VCall.b0 nofz (fun _ => rfl) ?_
 refine exf none rfl ?_
 refine exf none rfl ?_
 refine exf none rfl ?_
 refine exf none rfl ?_
 refine exf none rfl ?_
 refine exf _ hfd ?_
 repeat refine vni (by repeat' (first | exact trivial | exact rfl | refine vnf rfl ?_ | refine exf _ hfd ?_ | refine And.intro ?_ ?_)) ?_
 refine vcn (dec_no n5) ?_
 repeat refine vcn (dec_no n5) ?_
 repeat first | refine vcn (dec_no n5) ?_ | refine vcn (dec_no n6) ?_ | refine vcn (dec_no n2) ?_ | refine vcn (dec_no n1) ?_
 refine fail_spec _ off 3 ?_
 refine VUpd.drop 1 ?_ ?_ ?_ ?_
 iterate 3 exact rfl
 refine VUpd.now rfl ⟨_, rfl, rfl, rfl, ?_⟩
 rw [hF]
 simp only [typB, if_true, if_false, reduceIte, Nat.reduceEqDiff, PR.map, n5, n6, n2, n1]
 exact ⟨_, rfl, rfl⟩
set_option maxRecDepth 100000 in
set_option maxHeartbeats 16000000 in
theorem typ_c17 (R : Rd) (w : R.Wf) (f p : Nat) (hp : p < R.ts.length) (ht : TypOk (typF R f) R (p + 1)) (kind : Nat) (text : List UInt8) (off : Nat) (htk : R.ts[p]? = some ⟨kind, text, off⟩) (hF : typF R (f + 1) p = typB (typF R f) R kind text off (p + 1)) (n5 : kind ≠ 5) (n6 : kind ≠ 6) (n2 : kind ≠ 2) (n1 : kind ≠ 1) (jj kk : Nat) (hfd : vfind .string (strV text) baseE 0 = some (some (jj, intV kk))) :
  VCall C intr0 F.reader_typ [.bp 0 0] [rdO R p] fun r σ' => ∃ cs', σ' = [.box cs'] /\ closedCR r = true /\ bdL 0 cs' = true /\ tyK R (typF R (f + 1) p) r cs' := by
 have hlen := w.len
 have hgo : kind ≠ 0 -> p + 1 < R.ts.length := fun h => w.go p _ htk h
 have hst : kind ≠ 0 -> stepP ⟨kind, text, off⟩ p = p + 1 := fun h => if_neg h
 refine VCall.b1 typfz (fun _ => rfl) ?_
 refine take_spec R p _ htk (by omega) 0 rfl ?_
 first | have hq0 : p + 1 < R.ts.length := hgo (by omega) | skip
 first | rw [hst (by omega)] | skip
 skip
 repeat refine vni (by repeat' (first | exact trivial | exact rfl | refine vnf rfl ?_ | refine exf _ hfd ?_ | refine And.intro ?_ ?_)) ?_
 refine VCall.b0 nofz (fun _ => rfl) ?_
 refine exf none rfl ?_
 refine exf none rfl ?_
 refine exf none rfl ?_
 refine exf none rfl ?_
 refine exf none rfl ?_
 refine exf _ hfd ?_
 repeat refine vni (by repeat' (first | exact trivial | exact rfl | refine vnf rfl ?_ | refine exf _ hfd ?_ | refine And.intro ?_ ?_)) ?_
 refine vcn (dec_no n5) ?_
 repeat refine vcn (dec_no n5) ?_
 repeat first | refine vcn (dec_no n5) ?_ | refine vcn (dec_no n6) ?_ | refine vcn (dec_no n2) ?_ | refine vcn (dec_no n1) ?_
 refine fail_spec _ off 3 ?_
 refine VUpd.drop 1 ?_ ?_ ?_ ?_
 iterate 3 exact rfl
 refine VUpd.now rfl ⟨_, rfl, rfl, rfl, ?_⟩
 rw [hF]
 simp only [typB, if_true, if_false, reduceIte, Nat.reduceEqDiff, PR.map, n5, n6, n2, n1]
 exact ⟨_, rfl, rfl⟩
set_option maxRecDepth 100000 in
set_option maxHeartbeats 16000000 in
theorem typ_spec0 (R : Rd) (w : R.Wf) (f p : Nat) (hp : p < R.ts.length) (ht : TypOk (typF R f) R (p + 1)) :
  VCall C intr0 F.reader_typ [.bp 0 0] [rdO R p] fun r σ' => ∃ cs', σ' = [.box cs'] /\ closedCR r = true /\ bdL 0 cs' = true /\ tyK R (typF R (f + 1) p) r cs' := by
 have hF : typF R (f + 1) p = typB (typF R f) R (R.tok p).kind (R.tok p).text (R.tok p).off (p + 1) := by rw [typF]
 have htk := Rd.tok_some hp
 generalize R.tok p = tk at hF htk
 obtain ⟨kind, text, off⟩ := tk
 dsimp only at hF
 have cases : (kind = 5 /\ (text = [105, 110, 116])) ∨ (kind = 5 /\ text = [98, 111, 111, 108]) ∨ (kind = 5 /\ text = [116, 101, 120, 116]) ∨ (kind = 5 /\ text = [97, 110, 121]) ∨ (kind = 5 /\ text = [110, 111, 110, 101]) ∨ (kind = 5 /\ text = [108, 105, 115, 116]) ∨ (kind = 5 /\ text = [102, 110]) ∨
   (kind = 5 /\ basicK text = none /\ text ≠ [108, 105, 115, 116] /\ text ≠ [102, 110]) ∨ (kind = 6 /\ text = [123]) ∨ (kind = 6 /\ text = [60]) ∨ (kind = 6 /\ text ≠ [123] /\ text ≠ [60]) ∨ kind = 2 ∨ kind = 1 ∨ (kind ≠ 5 /\ kind ≠ 6 /\ kind ≠ 2 /\ kind ≠ 1) := by
  by_cases h5 : kind = 5
  ·by_cases h1 : text = [105, 110, 116]
   ·exact .inl ⟨h5, h1⟩
   refine .inr ?_
   by_cases h2 : text = [98, 111, 111, 108]
   ·exact .inl ⟨h5, h2⟩
   refine .inr ?_
   by_cases h3 : text = [116, 101, 120, 116]
   ·exact .inl ⟨h5, h3⟩
   refine .inr ?_
   by_cases h4 : text = [97, 110, 121]
   ·exact .inl ⟨h5, h4⟩
   refine .inr ?_
   by_cases h6 : text = [110, 111, 110, 101]
   ·exact .inl ⟨h5, h6⟩
   refine .inr ?_
   by_cases h7 : text = [108, 105, 115, 116]
   ·exact .inl ⟨h5, h7⟩
   refine .inr ?_
   by_cases h8 : text = [102, 110]
   ·exact .inl ⟨h5, h8⟩
   refine .inr (.inl ⟨h5, ?_, h7, h8⟩)
   unfold basicK
   rw [if_neg h1, if_neg h2, if_neg h3, if_neg h4, if_neg h6]
  ·refine .inr (.inr (.inr (.inr (.inr (.inr (.inr (.inr ?_)))))))
   by_cases h6 : kind = 6
   ·by_cases h7 : text = [123]
    ·exact .inl ⟨h6, h7⟩
    ·by_cases h8 : text = [60]
     ·exact .inr (.inl ⟨h6, h8⟩)
     ·exact .inr (.inr (.inl ⟨h6, h7, h8⟩))
   ·by_cases h2 : kind = 2
    ·exact .inr (.inr (.inr (.inl h2)))
    ·by_cases h1 : kind = 1
     ·exact .inr (.inr (.inr (.inr (.inl h1))))
     ·exact .inr (.inr (.inr (.inr (.inr ⟨h5, h6, h2, h1⟩))))
 rcases cases with ⟨h5, ht5⟩ | ⟨h5, ht5⟩ | ⟨h5, ht5⟩ | ⟨h5, ht5⟩ | ⟨h5, ht5⟩ | ⟨h5, ht5⟩ | ⟨h5, ht5⟩ | ⟨h5, hb, hl, hfn⟩ | ⟨h6, ht6⟩ | ⟨h6, ht6⟩ | ⟨h6, hc, hv⟩ | h2 | h1 | ⟨n5, n6, n2, n1⟩
 ·exact typ_c0 R w f p hp ht kind text off htk hF h5 ht5
 ·exact typ_c1 R w f p hp ht kind text off htk hF h5 ht5
 ·exact typ_c2 R w f p hp ht kind text off htk hF h5 ht5
 ·exact typ_c3 R w f p hp ht kind text off htk hF h5 ht5
 ·exact typ_c4 R w f p hp ht kind text off htk hF h5 ht5
 ·exact typ_c5 R w f p hp ht kind text off htk hF h5 ht5
 ·exact typ_c6 R w f p hp ht kind text off htk hF h5 ht5
 ·exact typ_c7 R w f p hp ht kind text off htk hF h5 hb hl hfn
 ·exact typ_c8 R w f p hp ht kind text off htk hF h6 ht6
 ·exact typ_c9 R w f p hp ht kind text off htk hF h6 ht6
 ·rcases find_basic text with hfd | ⟨jj, kk, hfd⟩
  ·exact typ_c10 R w f p hp ht kind text off htk hF h6 hc hv hfd
  ·exact typ_c11 R w f p hp ht kind text off htk hF h6 hc hv jj kk hfd
 ·rcases find_basic text with hfd | ⟨jj, kk, hfd⟩
  ·exact typ_c12 R w f p hp ht kind text off htk hF h2 hfd
  ·exact typ_c13 R w f p hp ht kind text off htk hF h2 jj kk hfd
 ·rcases find_basic text with hfd | ⟨jj, kk, hfd⟩
  ·exact typ_c14 R w f p hp ht kind text off htk hF h1 hfd
  ·exact typ_c15 R w f p hp ht kind text off htk hF h1 jj kk hfd
 ·rcases find_basic text with hfd | ⟨jj, kk, hfd⟩
  ·exact typ_c16 R w f p hp ht kind text off htk hF n5 n6 n2 n1 hfd
  ·exact typ_c17 R w f p hp ht kind text off htk hF n5 n6 n2 n1 jj kk hfd
end Go.Proofs.YthfehkcfhiilfaaGreatDoor
