/- CheckType, parser.Type, and what a source means. -/
import Derived.Test.YthfehkcfhiilfaaGreatDoorKYb
import Derived.Test.YthfehkcfhiilfaaGreatDoorKRe
namespace Go.Proofs.YthfehkcfhiilfaaGreatDoor
open Go.AM Go.VM
set_option maxHeartbeats 4000000 in
theorem shaped_spec (t : Ty) (d : List D) (hd : TyD t d) (hw : NodeW t) (hl : tsize t < 4294967296) {σ : VS} {K : VCR -> VS -> Prop} (hk : K (.ret (boolV true)) σ) : VCall C intr0 F.syntax_shaped [.agg (d.map V.d)] σ K := by
 obtain ⟨k, m, nm, a, f, rfl⟩ := hd.five
 exact VCall.pure (shaped_spec0 t _ hd hw hl) rfl rfl hk
theorem name_len {s : List UInt8} (h : isName s = true) : s.length < 4294967296 := by
 simp only [isName, Bool.and_eq_true, decide_eq_true_eq] at h
 omega
theorem type_len {s : List UInt8} (h : isType s = true) : s.length < 4294967296 := by
 simp only [isType, Bool.and_eq_true, decide_eq_true_eq] at h
 omega
set_option maxHeartbeats 4000000 in
theorem module_spec (s : List UInt8) (h : s = [] ∨ isName s = true) {σ : VS} {K : VCR -> VS -> Prop} (hk : K (.ret (boolV true)) σ) : VCall C intr0 F.syntax_module [strV s] σ K := by
 refine VCall.b0 nofz (fun _ => rfl) ?_
 rcases h with rfl | h
 ·exact hk
 ·have hne : s ≠ [] := fun e => by subst e; cases h
  refine vcn (decide_eq_false hne) ?_
  repeat refine vcn (decide_eq_false hne) ?_
  refine isName_spec s (name_len h) ?_
  rw [h]
  repeat refine vcn (decide_eq_false hne) ?_
  exact hk
def errN (b : Bool) : Nat := if b then 7 else 0
set_option maxRecDepth 100000 in
set_option maxHeartbeats 8000000 in
theorem typeNode_spec0 (t : Ty) (d : List D) (hd : TyD t d) (hw : NodeW t) (hl : tsize t < 4294967296) : VCall C intr0 F.syntax_typeNode [.agg (d.map V.d)] [] fun r σ' => σ' = [] /\ r = .ret (intV (errN (bigN t))) := by
 refine VCall.b1 nofz (fun _ => rfl) ?_
 have hw' := hw
 cases hw with
 | base hk =>
  rename_i k
  cases hd with
  | mk ha hf =>
   refine shaped_spec _ _ (TyD.mk ha hf) hw' hl ?_
   obtain rfl := ha.nil_inv
   have hk5 : k = 0 ∨ k = 1 ∨ k = 2 ∨ k = 3 ∨ k = 4 := by omega
   rcases hk5 with rfl | rfl | rfl | rfl | rfl
   ·rcases hf.nil_inv with rfl | ⟨b2, o2, cap2, rfl⟩
    ·refine ctn rfl _ _ FlsD.nil (by decide) (fun x j hj => absurd hj (Nat.not_lt_zero _)) ?_
     refine inc _ _ FlsD.nil (by decide) List.Pairwise.nil ?_
     refine VUpd.drop 0 ?_ ?_ ?_ ?_
     iterate 3 exact rfl
     exact VUpd.now rfl ⟨rfl, rfl⟩
    ·refine ctn rfl _ _ (FlsD.ps .nil) (by decide) (fun x j hj => absurd hj (Nat.not_lt_zero _)) ?_
     refine inc _ _ (FlsD.ps .nil) (by decide) List.Pairwise.nil ?_
     refine VUpd.drop 0 ?_ ?_ ?_ ?_
     iterate 3 exact rfl
     exact VUpd.now rfl ⟨rfl, rfl⟩
   ·rcases hf.nil_inv with rfl | ⟨b2, o2, cap2, rfl⟩
    ·refine ctn rfl _ _ FlsD.nil (by decide) (fun x j hj => absurd hj (Nat.not_lt_zero _)) ?_
     refine inc _ _ FlsD.nil (by decide) List.Pairwise.nil ?_
     refine VUpd.drop 0 ?_ ?_ ?_ ?_
     iterate 3 exact rfl
     exact VUpd.now rfl ⟨rfl, rfl⟩
    ·refine ctn rfl _ _ (FlsD.ps .nil) (by decide) (fun x j hj => absurd hj (Nat.not_lt_zero _)) ?_
     refine inc _ _ (FlsD.ps .nil) (by decide) List.Pairwise.nil ?_
     refine VUpd.drop 0 ?_ ?_ ?_ ?_
     iterate 3 exact rfl
     exact VUpd.now rfl ⟨rfl, rfl⟩
   ·rcases hf.nil_inv with rfl | ⟨b2, o2, cap2, rfl⟩
    ·refine ctn rfl _ _ FlsD.nil (by decide) (fun x j hj => absurd hj (Nat.not_lt_zero _)) ?_
     refine inc _ _ FlsD.nil (by decide) List.Pairwise.nil ?_
     refine VUpd.drop 0 ?_ ?_ ?_ ?_
     iterate 3 exact rfl
     exact VUpd.now rfl ⟨rfl, rfl⟩
    ·refine ctn rfl _ _ (FlsD.ps .nil) (by decide) (fun x j hj => absurd hj (Nat.not_lt_zero _)) ?_
     refine inc _ _ (FlsD.ps .nil) (by decide) List.Pairwise.nil ?_
     refine VUpd.drop 0 ?_ ?_ ?_ ?_
     iterate 3 exact rfl
     exact VUpd.now rfl ⟨rfl, rfl⟩
   ·rcases hf.nil_inv with rfl | ⟨b2, o2, cap2, rfl⟩
    ·refine ctn rfl _ _ FlsD.nil (by decide) (fun x j hj => absurd hj (Nat.not_lt_zero _)) ?_
     refine inc _ _ FlsD.nil (by decide) List.Pairwise.nil ?_
     refine VUpd.drop 0 ?_ ?_ ?_ ?_
     iterate 3 exact rfl
     exact VUpd.now rfl ⟨rfl, rfl⟩
    ·refine ctn rfl _ _ (FlsD.ps .nil) (by decide) (fun x j hj => absurd hj (Nat.not_lt_zero _)) ?_
     refine inc _ _ (FlsD.ps .nil) (by decide) List.Pairwise.nil ?_
     refine VUpd.drop 0 ?_ ?_ ?_ ?_
     iterate 3 exact rfl
     exact VUpd.now rfl ⟨rfl, rfl⟩
   ·rcases hf.nil_inv with rfl | ⟨b2, o2, cap2, rfl⟩
    ·refine ctn rfl _ _ FlsD.nil (by decide) (fun x j hj => absurd hj (Nat.not_lt_zero _)) ?_
     refine inc _ _ FlsD.nil (by decide) List.Pairwise.nil ?_
     refine VUpd.drop 0 ?_ ?_ ?_ ?_
     iterate 3 exact rfl
     exact VUpd.now rfl ⟨rfl, rfl⟩
    ·refine ctn rfl _ _ (FlsD.ps .nil) (by decide) (fun x j hj => absurd hj (Nat.not_lt_zero _)) ?_
     refine inc _ _ (FlsD.ps .nil) (by decide) List.Pairwise.nil ?_
     refine VUpd.drop 0 ?_ ?_ ?_ ?_
     iterate 3 exact rfl
     exact VUpd.now rfl ⟨rfl, rfl⟩
 | list =>
  cases hd with
  | mk ha hf =>
   refine shaped_spec _ _ (TyD.mk ha hf) hw' hl ?_
   obtain ⟨b, o, cap, d, rfl⟩ := ha.one_inv
   rcases hf.nil_inv with rfl | ⟨b2, o2, cap2, rfl⟩
   ·refine ctn rfl _ _ FlsD.nil (by decide) (fun x j hj => absurd hj (Nat.not_lt_zero _)) ?_
    refine inc _ _ FlsD.nil (by decide) List.Pairwise.nil ?_
    refine VUpd.drop 0 ?_ ?_ ?_ ?_
    iterate 3 exact rfl
    exact VUpd.now rfl ⟨rfl, rfl⟩
   ·refine ctn rfl _ _ (FlsD.ps .nil) (by decide) (fun x j hj => absurd hj (Nat.not_lt_zero _)) ?_
    refine inc _ _ (FlsD.ps .nil) (by decide) List.Pairwise.nil ?_
    refine VUpd.drop 0 ?_ ?_ ?_ ?_
    iterate 3 exact rfl
    exact VUpd.now rfl ⟨rfl, rfl⟩
 | rcd h =>
  cases hd with
  | mk ha hf =>
   refine shaped_spec _ _ (TyD.mk ha hf) hw' hl ?_
   obtain rfl := ha.nil_inv
   have hfl := (fl_len hl).1
   cases hf with
   | nil =>
    refine ctn rfl _ _ FlsD.nil (by decide) (fun x j hj => absurd hj (Nat.not_lt_zero _)) ?_
    refine inc _ _ FlsD.nil (by decide) List.Pairwise.nil ?_
    refine VUpd.drop 0 ?_ ?_ ?_ ?_
    iterate 3 exact rfl
    exact VUpd.now rfl ⟨rfl, rfl⟩
   | ps hf =>
    have hel := hf.len
    refine vci (fun hc => ?_) (fun hc => ?_)
    ·have h32 := dlt (a := 32) hc
     rw [hel] at h32
     repeat refine vcp hc ?_
     refine VUpd.drop 0 ?_ ?_ ?_ ?_
     iterate 3 exact rfl
     exact VUpd.now rfl ⟨rfl, by simp [bigN, h32, errN]; rfl⟩
    ·have h32 := dnlt (a := 32) hc
     rw [hel] at h32
     repeat refine vcn hc ?_
     refine ctn rfl _ _ (FlsD.ps hf) (by omega) (fun x j hj e1 _ => fun hk => node1_spec x (by rw [<- e1]; exact h.name _ (List.getElem_mem hj)) hk) ?_
     refine inc _ _ (FlsD.ps hf) (by omega) h.srt ?_
     refine VUpd.drop 0 ?_ ?_ ?_ ?_
     iterate 3 exact rfl
     exact VUpd.now rfl ⟨rfl, by simp [bigN, Nat.not_lt.2 h32, errN]; rfl⟩
 | vrt h =>
  cases hd with
  | mk ha hf =>
   refine shaped_spec _ _ (TyD.mk ha hf) hw' hl ?_
   obtain rfl := ha.nil_inv
   have hfl := (fl_len hl).1
   cases hf with
   | nil =>
    refine ctn rfl _ _ FlsD.nil (by decide) (fun x j hj => absurd hj (Nat.not_lt_zero _)) ?_
    refine inc _ _ FlsD.nil (by decide) List.Pairwise.nil ?_
    refine VUpd.drop 0 ?_ ?_ ?_ ?_
    iterate 3 exact rfl
    exact VUpd.now rfl ⟨rfl, rfl⟩
   | ps hf =>
    have hel := hf.len
    refine vci (fun hc => ?_) (fun hc => ?_)
    ·have h32 := dlt (a := 32) hc
     rw [hel] at h32
     repeat refine vcp hc ?_
     refine VUpd.drop 0 ?_ ?_ ?_ ?_
     iterate 3 exact rfl
     exact VUpd.now rfl ⟨rfl, by simp [bigN, h32, errN]; rfl⟩
    ·have h32 := dnlt (a := 32) hc
     rw [hel] at h32
     repeat refine vcn hc ?_
     refine ctn rfl _ _ (FlsD.ps hf) (by omega) (fun x j hj e1 _ => fun hk => node1_spec x (by rw [<- e1]; exact h.name _ (List.getElem_mem hj)) hk) ?_
     refine inc _ _ (FlsD.ps hf) (by omega) h.srt ?_
     refine VUpd.drop 0 ?_ ?_ ?_ ?_
     iterate 3 exact rfl
     exact VUpd.now rfl ⟨rfl, by simp [bigN, Nat.not_lt.2 h32, errN]; rfl⟩
 | func h =>
  cases hd with
  | mk ha hf =>
   refine shaped_spec _ _ (TyD.mk ha hf) hw' hl ?_
   obtain ⟨b, o, cap, d, rfl⟩ := ha.one_inv
   have hfl := (fl_len hl).1
   cases hf with
   | nil =>
    refine ctn rfl _ _ FlsD.nil (by decide) (fun x j hj => absurd hj (Nat.not_lt_zero _)) ?_
    refine inc _ _ FlsD.nil (by decide) List.Pairwise.nil ?_
    refine VUpd.drop 0 ?_ ?_ ?_ ?_
    iterate 3 exact rfl
    exact VUpd.now rfl ⟨rfl, rfl⟩
   | ps hf =>
    have hel := hf.len
    refine vci (fun hc => ?_) (fun hc => ?_)
    ·have h32 := dlt (a := 32) hc
     rw [hel] at h32
     repeat refine vcp hc ?_
     refine VUpd.drop 0 ?_ ?_ ?_ ?_
     iterate 3 exact rfl
     exact VUpd.now rfl ⟨rfl, by simp [bigN, h32, errN]; rfl⟩
    ·have h32 := dnlt (a := 32) hc
     rw [hel] at h32
     repeat refine vcn hc ?_
     refine ctn rfl _ _ (FlsD.ps hf) (by omega) (fun x j hj e1 _ => fun hk => node1_spec x (by rw [<- e1]; exact h.name _ (List.getElem_mem hj)) hk) ?_
     refine inc _ _ (FlsD.ps hf) (by omega) h.srt ?_
     refine VUpd.drop 0 ?_ ?_ ?_ ?_
     iterate 3 exact rfl
     exact VUpd.now rfl ⟨rfl, by simp [bigN, Nat.not_lt.2 h32, errN]; rfl⟩
 | ref hm hn =>
  cases hd with
  | mk ha hf =>
   refine shaped_spec _ _ (TyD.mk ha hf) hw' hl ?_
   cases ha with
   | nil =>
    rcases hf.nil_inv with rfl | ⟨b2, o2, cap2, rfl⟩
    ·refine module_spec _ hm ?_
     refine isType_spec _ (type_len hn) ?_
     rw [hn]
     refine ctn rfl _ _ FlsD.nil (by decide) (fun x j hj => absurd hj (Nat.not_lt_zero _)) ?_
     refine inc _ _ FlsD.nil (by decide) List.Pairwise.nil ?_
     refine VUpd.drop 0 ?_ ?_ ?_ ?_
     iterate 3 exact rfl
     exact VUpd.now rfl ⟨rfl, rfl⟩
    ·refine module_spec _ hm ?_
     refine isType_spec _ (type_len hn) ?_
     rw [hn]
     refine ctn rfl _ _ (FlsD.ps .nil) (by decide) (fun x j hj => absurd hj (Nat.not_lt_zero _)) ?_
     refine inc _ _ (FlsD.ps .nil) (by decide) List.Pairwise.nil ?_
     refine VUpd.drop 0 ?_ ?_ ?_ ?_
     iterate 3 exact rfl
     exact VUpd.now rfl ⟨rfl, rfl⟩
   | ps ha hne =>
    have hal := ha.len
    rcases hf.nil_inv with rfl | ⟨b2, o2, cap2, rfl⟩
    ·refine vci (fun hc => ?_) (fun hc => ?_)
     ·have h8 := dlt (a := 8) hc
      rw [hal] at h8
      repeat refine vcp hc ?_
      refine VUpd.drop 0 ?_ ?_ ?_ ?_
      iterate 3 exact rfl
      exact VUpd.now rfl ⟨rfl, by simp [bigN, h8, errN]; rfl⟩
     ·have h8 := dnlt (a := 8) hc
      rw [hal] at h8
      repeat refine vcn hc ?_
      refine module_spec _ hm ?_
      refine isType_spec _ (type_len hn) ?_
      rw [hn]
      refine ctn rfl _ _ FlsD.nil (by decide) (fun x j hj => absurd hj (Nat.not_lt_zero _)) ?_
      refine inc _ _ FlsD.nil (by decide) List.Pairwise.nil ?_
      refine VUpd.drop 0 ?_ ?_ ?_ ?_
      iterate 3 exact rfl
      exact VUpd.now rfl ⟨rfl, by simp [bigN, Nat.not_lt.2 h8, errN]; rfl⟩
    ·refine vci (fun hc => ?_) (fun hc => ?_)
     ·have h8 := dlt (a := 8) hc
      rw [hal] at h8
      repeat refine vcp hc ?_
      refine VUpd.drop 0 ?_ ?_ ?_ ?_
      iterate 3 exact rfl
      exact VUpd.now rfl ⟨rfl, by simp [bigN, h8, errN]; rfl⟩
     ·have h8 := dnlt (a := 8) hc
      rw [hal] at h8
      repeat refine vcn hc ?_
      refine module_spec _ hm ?_
      refine isType_spec _ (type_len hn) ?_
      rw [hn]
      refine ctn rfl _ _ (FlsD.ps .nil) (by decide) (fun x j hj => absurd hj (Nat.not_lt_zero _)) ?_
      refine inc _ _ (FlsD.ps .nil) (by decide) List.Pairwise.nil ?_
      refine VUpd.drop 0 ?_ ?_ ?_ ?_
      iterate 3 exact rfl
      exact VUpd.now rfl ⟨rfl, by simp [bigN, Nat.not_lt.2 h8, errN]; rfl⟩
set_option maxHeartbeats 4000000 in
theorem typeNode_spec (t : Ty) (d : List D) (hd : TyD t d) (hw : NodeW t) (hl : tsize t < 4294967296) {σ : VS} {K : VCR -> VS -> Prop} (hk : K (.ret (intV (errN (bigN t)))) σ) : VCall C intr0 F.syntax_typeNode [.agg (d.map V.d)] σ K := by
 obtain ⟨k, m, nm, a, f, rfl⟩ := hd.five
 exact VCall.pure (typeNode_spec0 t _ hd hw hl) rfl rfl hk
inductive AllW : Ty -> Prop
 | mk {t : Ty} (h : NodeW t) (hp : ∀ p ∈ partsF t, AllW p) : AllW t
theorem tbigL_false {l : List Ty} : tbigL l = false ↔ ∀ t ∈ l, tbig t = false := by
 induction l with
 | nil => simp [tbigL]
 | cons a l ih => simp [tbigL, ih]
theorem tbigL_true {l : List Ty} {t : Ty} (h : t ∈ l) (ht : tbig t = true) : tbigL l = true := by
 cases hb : tbigL l with
 | true => rfl
 | false => rw [tbigL_false.1 hb t h] at ht; cases ht
def chkK (c0 c2 : List V) (L L' : VLoop) (b : Bool) (r : VCR) (σ' : VS) : Prop := match b with
 | true => σ' = walkS [intV 7] c0 c2 L' /\ r = .ret (boolV false)
 | false => σ' = walkS [intV 0] c0 c2 L /\ r = .ret (boolV true)
theorem chkWalk0 (c0 c2 : List V) (L L' : VLoop) (hb0 : bdL 0 c0 = true) (hb2 : bdL 0 c2 = true) (hL : bdO 7 (.loop L) = true) (hL' : bdO 7 (.loop L') = true) (hL9 : ∀ cs cs', bdL 0 cs = true -> bdL 0 cs' = true -> bdS 9 (walkS [intV 0] c0 c2 L ++ [.box cs, .box cs']) 9 = true)
  (hy : ∀ (cs : List V) (t : Ty) (d : List D) (K : VCR -> VS -> Prop), TyD t d -> NodeW t -> tsize t < 4294967296 -> (bigN t = false -> K (.ret (boolV true)) (walkS [intV 0] c0 c2 L ++ [.box cs, .box (d.map V.d)])) -> (bigN t = true -> K (.ret (boolV false)) (walkS [intV 7] c0 c2 L' ++ [.box cs, .box (d.map V.d)])) ->
   VRound C intr0 4 [.agg (d.map V.d)] (walkS [intV 0] c0 c2 L ++ [.box cs]) K) (n : Nat)
  (ih : ∀ (t : Ty) (d : List D), tsize t <= n -> TyD t d -> AllW t -> VCall C intr0 F.syntax_types_1_1 [.agg (d.map V.d), .bp 5 0, .bp 6 0] (walkS [intV 0] c0 c2 L) (chkK c0 c2 L L' (tbig t)))
  (t : Ty) (d : List D) (ht : tsize t <= n + 1) (hn : n + 1 < 4294967296) (hd : TyD t d) (hw : AllW t) :
  VCall C intr0 F.syntax_types_1_1 [.agg (d.map V.d), .bp 5 0, .bp 6 0] (walkS [intV 0] c0 c2 L) (chkK c0 c2 L L' (tbig t)) := by
 obtain ⟨k, m, nm, a, f, rfl⟩ := hd.five
 have hsz := tsize_parts t
 cases hw with
 | mk hw hpw =>
 refine VCall.b1 nofz (fun _ => rfl) ?_
 refine hy (tyV k m nm a f) t _ _ hd hw (by omega) (fun hbig => ?_) (fun hbig => ?_)
 ·refine parts_spec t _ hd (by omega) (fun d hs => ?_)
  rw [tbig_parts, hbig, Bool.false_or]
  have hpl : tsizeL (partsF t) <= n := by omega
  generalize partsF t = pl at hs hpl hpw
  have hll := tsizeL_len pl
  cases hs with
  | nil =>
   refine VCode.loop ?_
   refine VUpd.drop 7 ?_ ?_ ?_ ?_
   ·exact rfl
   ·exact walk_bd rfl hb0 hb2 hL
   ·exact rfl
   exact VUpd.now rfl ⟨rfl, rfl⟩
  | ps h =>
   rename_i b o cap els
   have hel := h.len
   refine VCode.less (tm0 := [(12, .d (.ps b o 5 cap els)), (13, intV pl.length), (14, intV 0), (2, .bp 6 0)]) ⟨rfl, int_eq (by rw [hel]), rfl, rfl, trivial⟩ ?_
   refine VCode.iter (fun i : Nat => [(12, .d (.ps b o 5 cap els)), (13, intV pl.length), (14, intV i), (2, .bp 6 0)]) (fun i => walkS [intV 0] c0 c2 L ++ [.box (tyV k m nm a f), .box (tyV k m nm a f)]) (fun i => pl.length - i) (fun i => i <= pl.length /\ ∀ j (hj : j < pl.length), j < i -> tbig pl[j] = false) ?_ 0 ⟨Nat.zero_le _, fun j _ h => absurd h (Nat.not_lt_zero _)⟩
   rintro i ⟨hi, hno⟩
   refine vci (fun hc => ?_) (fun hc => ?_)
   ·have hi' : i < pl.length := dlt hc
    obtain ⟨d, hx, hxt⟩ := h.get hi'
    refine vnf rfl ?_
    obtain ⟨k2, m2, nm2, a2, f2, rfl⟩ := hxt.five
    refine exf _ (by rw [nth_eq]; exact hx) ?_
    have hle := tsizeL_mem (List.getElem_mem hi')
    refine (ih pl[i] _ (by omega) hxt (hpw _ (List.getElem_mem hi'))).pre [.box (tyV k m nm a f), .box (tyV k m nm a f), .box (tyV k2 m2 nm2 a2 f2)] (walk_bd rfl hb0 hb2 hL) rfl (fun r σ' h => ?_)
    cases hb : tbig pl[i] with
    | false =>
     rw [hb] at h
     obtain ⟨rfl, rfl⟩ := h
     refine ⟨rfl, walk_bd rfl hb0 hb2 hL, rfl, ?_⟩
     refine ⟨i + 1, ⟨hi', fun j hj hji => ?_⟩, by show pl.length - (i + 1) < pl.length - i; omega, .drop 9 ⟨rfl, rfl, int_eq (wrap_succ (by omega)), rfl, trivial⟩ rfl rfl ?_ rfl rfl rfl rfl, rfl, rfl⟩
     ·rcases Nat.lt_or_ge j i with h1 | h1
      ·exact hno j hj h1
      ·obtain rfl : j = i := by omega
       exact hb
     ·exact hL9 _ _ rfl rfl
    | true =>
     rw [hb] at h
     obtain ⟨rfl, rfl⟩ := h
     refine ⟨rfl, walk_bd rfl hb0 hb2 hL', rfl, ?_⟩
     refine VUpd.drop 7 ?_ ?_ ?_ ?_
     ·exact rfl
     ·exact walk_bd rfl hb0 hb2 hL'
     ·exact rfl
     refine VUpd.now rfl ?_
     rw [tbigL_true (List.getElem_mem hi') hb]
     exact ⟨rfl, rfl⟩
   ·have hi' : pl.length <= i := dnlt hc
    refine VUpd.drop 7 ?_ ?_ ?_ ?_
    ·exact rfl
    ·exact walk_bd rfl hb0 hb2 hL
    ·exact rfl
    refine VUpd.now rfl ?_
    rw [tbigL_false.2 (fun t ht => by
     obtain ⟨j, hj, rfl⟩ := List.mem_iff_getElem.1 ht
     exact hno j hj (by omega))]
    exact ⟨rfl, rfl⟩
 ·refine VUpd.drop 7 ?_ ?_ ?_ ?_
  ·exact rfl
  ·exact walk_bd rfl hb0 hb2 hL'
  ·exact rfl
  refine VUpd.now rfl ?_
  rw [tbig_parts, hbig, Bool.true_or]
  exact ⟨rfl, rfl⟩
theorem chkWalk (c0 c2 : List V) (L L' : VLoop) (hb0 : bdL 0 c0 = true) (hb2 : bdL 0 c2 = true) (hL : bdO 7 (.loop L) = true) (hL' : bdO 7 (.loop L') = true) (hL9 : ∀ cs cs', bdL 0 cs = true -> bdL 0 cs' = true -> bdS 9 (walkS [intV 0] c0 c2 L ++ [.box cs, .box cs']) 9 = true)
  (hy : ∀ (cs : List V) (t : Ty) (d : List D) (K : VCR -> VS -> Prop), TyD t d -> NodeW t -> tsize t < 4294967296 -> (bigN t = false -> K (.ret (boolV true)) (walkS [intV 0] c0 c2 L ++ [.box cs, .box (d.map V.d)])) -> (bigN t = true -> K (.ret (boolV false)) (walkS [intV 7] c0 c2 L' ++ [.box cs, .box (d.map V.d)])) ->
   VRound C intr0 4 [.agg (d.map V.d)] (walkS [intV 0] c0 c2 L ++ [.box cs]) K) : ∀ (n : Nat) (t : Ty) (d : List D), n < 4294967296 -> tsize t <= n -> TyD t d -> AllW t -> VCall C intr0 F.syntax_types_1_1 [.agg (d.map V.d), .bp 5 0, .bp 6 0] (walkS [intV 0] c0 c2 L) (chkK c0 c2 L L' (tbig t)) := by
 intro n
 induction n with
 | zero => intro t d _ h; have := tsize_pos t; omega
 | succ n ih => intro t d hn h hd hw; exact chkWalk0 c0 c2 L L' hb0 hb2 hL hL' hL9 hy n (fun t d h1 h2 h3 => ih t d (by omega) h1 h2 h3) t d h hn hd hw
def doneL (L : VLoop) : VLoop := { L with state := .done, pending := some .ret }
theorem chkWalk' (c0 c2 : List V) (L : VLoop) (hb0 : bdL 0 c0 = true) (hb2 : bdL 0 c2 = true) (hL : bdO 7 (.loop L) = true) (hL9 : bdO 9 (.loop L) = true)
  (hy : ∀ (cs : List V) (t : Ty) (d : List D) (K : VCR -> VS -> Prop), TyD t d -> NodeW t -> tsize t < 4294967296 -> (bigN t = false -> K (.ret (boolV true)) (walkS [intV 0] c0 c2 L ++ [.box cs, .box (d.map V.d)])) -> (bigN t = true -> K (.ret (boolV false)) (walkS [intV 7] c0 c2 (doneL L) ++ [.box cs, .box (d.map V.d)])) ->
   VRound C intr0 4 [.agg (d.map V.d)] (walkS [intV 0] c0 c2 L ++ [.box cs]) K) (n : Nat) (t : Ty) (d : List D) (hn : n < 4294967296) (ht : tsize t <= n) (hd : TyD t d) (hw : AllW t) : VCall C intr0 F.syntax_types_1_1 [.agg (d.map V.d), .bp 5 0, .bp 6 0] (walkS [intV 0] c0 c2 L) (chkK c0 c2 L (doneL L) (tbig t)) :=
 chkWalk c0 c2 L (doneL L) hb0 hb2 hL hL (fun cs cs' h h' => by
  simp only [walkS, List.cons_append, List.nil_append, bdS, bdO, bdL_up 9 c0 hb0, bdL_up 9 c2 hb2, bdL_up 9 cs h, bdL_up 9 cs' h', Bool.true_and, Bool.and_true] at hL9 ⊢
  rw [hL9]
  rfl) hy n t d hn ht hd hw
def badT (t : Ty) : Bool := decide (4096 < tsize t) || decide (32 < tdepth t) || tbig t
set_option maxRecDepth 100000 in
set_option maxHeartbeats 4000000 in
theorem checkType_spec0 (t : Ty) (d : List D) (hd : TyD t d) (hw : AllW t) (hn : tsize t < 4294967295) : VCall C intr0 F.syntax_CheckType [.agg (d.map V.d)] [] fun r σ' => σ' = [] /\ r = .ret (intV (errN (badT t))) := by
 obtain ⟨k, m, nm, a, f, rfl⟩ := hd.five
 refine VCall.b1 nofz (fun _ => rfl) ?_
 refine size_spec t _ hd (by omega) ?_
 refine vci (fun h1 => ?_) (fun h1 => ?_)
 ·have h1' := dlt (a := 4096) h1
  repeat refine vcp h1 ?_
  refine VUpd.drop 0 ?_ ?_ ?_ ?_
  iterate 3 exact rfl
  refine VUpd.now rfl ⟨rfl, ?_⟩
  rw [badT, decide_eq_true h1', Bool.true_or, Bool.true_or]
  rfl
 ·have h1' := dnlt (a := 4096) h1
  repeat refine vcn h1 ?_
  refine depth_spec _ t _ hn (Nat.le_refl _) hd ?_
  repeat refine vcn h1 ?_
  refine vci (fun h2 => ?_) (fun h2 => ?_)
  ·have h2' := dlt (a := 32) h2
   repeat refine vcp h2 ?_
   refine VUpd.drop 0 ?_ ?_ ?_ ?_
   iterate 3 exact rfl
   refine VUpd.now rfl ⟨rfl, ?_⟩
   rw [badT, decide_eq_true h2', Bool.or_true, Bool.true_or]
   rfl
  ·have h2' := dnlt (a := 32) h2
   repeat refine vcn h2 ?_
   have hbt : badT t = tbig t := by rw [badT, decide_eq_false (by omega), decide_eq_false (by omega)]; rfl
   rw [hbt]
   refine VCall.b0 nofz (fun _ => rfl) ?_
   refine VCall.b0 nofz (fun _ => rfl) ?_
   refine (chkWalk' (tyV k m nm a f) (tyV k m nm a f) _ rfl rfl ?_ ?_ (fun cs t d K hd hw hl k1 k2 => ?_) _ t _ (by omega) (Nat.le_refl _) hd hw).mono (fun r σ' h => ?_)
   ·exact rfl
   ·exact rfl
   ·obtain ⟨k, m, nm, a, f, rfl⟩ := hd.five
    refine VRound.intro ?_
    refine typeNode_spec t _ hd hw hl ?_
    cases hb : bigN t with
    | false => exact k1 hb
    | true => exact k2 hb
   ·cases hb : tbig t with
    | false =>
     rw [hb] at h
     obtain ⟨rfl, rfl⟩ := h
     refine VUpd.drop 0 ?_ ?_ ?_ ?_
     iterate 3 exact rfl
     exact VUpd.now rfl ⟨rfl, rfl⟩
    | true =>
     rw [hb] at h
     obtain ⟨rfl, rfl⟩ := h
     refine VUpd.drop 0 ?_ ?_ ?_ ?_
     iterate 3 exact rfl
     exact VUpd.now rfl ⟨rfl, rfl⟩
set_option maxHeartbeats 4000000 in
theorem checkType_spec (t : Ty) (d : List D) (hd : TyD t d) (hw : AllW t) (hn : tsize t < 4294967295) {σ : VS} {K : VCR -> VS -> Prop} (hk : K (.ret (intV (errN (badT t)))) σ) : VCall C intr0 F.syntax_CheckType [.agg (d.map V.d)] σ K := by
 obtain ⟨k, m, nm, a, f, rfl⟩ := hd.five
 exact VCall.pure (checkType_spec0 t _ hd hw hn) rfl rfl hk
def Rd.Nm (R : Rd) : Prop := ∀ p, p < R.ts.length -> ((R.tok p).kind = 1 -> isName (R.tok p).text = true) /\ ((R.tok p).kind = 2 -> isType (R.tok p).text = true)
theorem Rd.nm_of {s : List UInt8} {R : Rd} (h : lexF s = .ok R.ts) : R.Nm := by
 obtain ⟨_, _, _, _, hg⟩ := lexF_wf h
 intro p hp
 have := Rd.tok_some hp
 obtain ⟨a, b, _⟩ := hg _ (List.mem_of_getElem? this)
 exact ⟨a, b⟩
def Good (ty : Nat -> PR Ty) (R : Rd) (lo : Nat) : Prop := ∀ p t q, lo <= p -> p < R.ts.length -> ty p = .ok t q -> AllW t /\ tsize t + p <= q /\ p < q /\ q < R.ts.length
theorem tsizeL_perm {l l' : List Ty} (h : l.Perm l') : tsizeL l = tsizeL l' := by
 induction h with
 | nil => rfl
 | cons x _ ih => simp only [tsizeL, ih]
 | swap x y l => simp only [tsizeL]; omega
 | trans _ _ h1 h2 => rw [h1, h2]
theorem argsLoop_good {ty : Nat -> PR Ty} {R : Rd} (w : R.Wf) {lo : Nat} (ht : Good ty R lo) :
  ∀ (f : Nat) (acc : List Ty) (p : Nat) (l : List Ty) (q : Nat), lo <= p -> p < R.ts.length -> (∀ x ∈ acc, AllW x) -> argsLoop ty R f acc p = .ok l q -> (∀ x ∈ l, AllW x) /\ tsizeL l + p <= tsizeL acc + q /\ q < R.ts.length := by
 intro f
 induction f with
 | zero => intro acc p l q _ _ _ h; cases h
 | succ f ih =>
  intro acc p l q hl hp ha h
  rw [argsLoop] at h
  cases e1 : ty p with
  | bad o e => rw [e1] at h; cases h
  | ok t q1 =>
   rw [e1] at h
   obtain ⟨g0, g1, g2, g3⟩ := ht p t q1 hl hp e1
   have ha' : ∀ x ∈ acc ++ [t], AllW x := fun x hx => by
    rcases List.mem_append.1 hx with hx | hx
    ·exact ha x hx
    ·simp at hx; subst hx; exact g0
   have hs : tsizeL (acc ++ [t]) = tsizeL acc + tsize t := by rw [tsizeL_app]; simp [tsizeL]
   dsimp only at h
   split at h
   ·rename_i h2
    obtain ⟨a, b, c⟩ := ih _ _ _ _ (by omega) (w.step g3 h2) ha' h
    exact ⟨a, by omega, c⟩
   ·cases hn : needF R [[93]] q1 with
    | bad o e => rw [hn] at h; cases h
    | ok u q2 =>
     rw [hn] at h
     cases h
     have := needF_mono _ _ _ hn
     exact ⟨ha', by omega, needF_lt w _ _ _ g3 hn⟩
theorem argsF_good {ty : Nat -> PR Ty} {R : Rd} (w : R.Wf) {p : Nat} (ht : Good ty R p) (hp : p < R.ts.length) {l : List Ty} {q : Nat} (h : argsF ty R p = .ok l q) : (∀ x ∈ l, AllW x) /\ tsizeL l + p <= q /\ q < R.ts.length := by
 rw [argsF] at h
 split at h
 ·rename_i h2
  obtain ⟨a, b, c⟩ := argsLoop_good w ht _ _ _ _ _ (by omega) (w.step hp h2) (by simp) h
  simp only [tsizeL] at b
  exact ⟨a, by omega, c⟩
 ·cases h; exact ⟨by simp, by simp [tsizeL], hp⟩
structure FlG (opt : Bool) (l : List Fld) : Prop where
 name : ∀ x ∈ l, isName x.1 = true
 all : ∀ x ∈ l, AllW x.2.1
 opt : opt = false -> ∀ x ∈ l, x.2.2 = false
 nd : (l.map (·.1)).Nodup
theorem FlG.snoc {opt : Bool} {l : List Fld} {n : List UInt8} {t : Ty} {o : Bool} (h : FlG opt l) (h1 : isName n = true) (h2 : AllW t) (h3 : opt = false -> o = false) (h4 : n ∉ l.map (·.1)) : FlG opt (l ++ [(n, t, o)]) := by
 refine ⟨fun x hx => ?_, fun x hx => ?_, fun ho x hx => ?_, ?_⟩
 ·rcases List.mem_append.1 hx with hx | hx
  ·exact h.name x hx
  ·simp at hx; subst hx; exact h1
 ·rcases List.mem_append.1 hx with hx | hx
  ·exact h.all x hx
  ·simp at hx; subst hx; exact h2
 ·rcases List.mem_append.1 hx with hx | hx
  ·exact h.opt ho x hx
  ·simp at hx; subst hx; exact h3 ho
 ·rw [List.map_append, List.nodup_append]
  refine ⟨h.nd, by simp, ?_⟩
  intro a ha b hb e
  simp only [List.map_cons, List.map_nil, List.mem_singleton] at hb
  subst e
  subst hb
  exact h4 ha
theorem fieldsLoop_good {ty : Nat -> PR Ty} {R : Rd} (w : R.Wf) (hm : R.Nm) {lo : Nat} (ht : Good ty R lo) (sep fin : List UInt8) (opt : Bool) :
  ∀ (f : Nat) (acc : List Fld) (p : Nat) (l : List Fld) (q : Nat), lo <= p -> p < R.ts.length -> FlG opt acc -> fieldsLoop ty R sep fin opt f acc p = .ok l q -> FlG opt l /\ tsizeL (ftys l) + p <= tsizeL (ftys acc) + q /\ q < R.ts.length := by
 intro f
 induction f with
 | zero => intro acc p l q _ _ _ h; cases h
 | succ f ih =>
  intro acc p l q hl hp ha h
  rw [fieldsLoop] at h
  split at h
  ·cases h
  ·rename_i hk
   have hk : (R.tok p).kind = 1 := by simpa using hk
   have hq1 : p + 1 < R.ts.length := w.go p _ (Rd.tok_some hp) (by omega)
   split at h
   ·cases h
   ·rename_i hin
    have hq2 : (if opt && isTok (R.tok (p + 1)) [63] then p + 1 + 1 else p + 1) < R.ts.length := by
     split
     ·rename_i hh
      rw [Bool.and_eq_true] at hh
      exact w.step hq1 hh.2
     ·exact hq1
    have hm2 : p + 1 <= (if opt && isTok (R.tok (p + 1)) [63] then p + 1 + 1 else p + 1) := by split <;> omega
    cases hn : needF R [[58]] (if opt && isTok (R.tok (p + 1)) [63] then p + 1 + 1 else p + 1) with
    | bad o e => rw [hn] at h; cases h
    | ok u q2 =>
     rw [hn] at h
     dsimp only at h
     have hq3 := needF_lt w _ _ _ hq2 hn
     have hm3 := needF_mono _ _ _ hn
     cases e1 : ty q2 with
     | bad o e => rw [e1] at h; cases h
     | ok t q1 =>
      rw [e1] at h
      dsimp only at h
      obtain ⟨g0, g1, g2, g3⟩ := ht q2 t q1 (by omega) hq3 e1
      have ha' : FlG opt (acc ++ [((R.tok p).text, t, opt && isTok (R.tok (p + 1)) [63])]) := ha.snoc ((hm p hp).1 hk) g0 (fun ho => by rw [ho]; rfl) hin
      have hs : tsizeL (ftys (acc ++ [((R.tok p).text, t, opt && isTok (R.tok (p + 1)) [63])])) = tsizeL (ftys acc) + tsize t := by
       simp only [ftys, List.map_append, tsizeL_app, List.map_cons, List.map_nil, tsizeL, Nat.add_zero]
      split at h
      ·rename_i h3
       cases h
       exact ⟨ha', by omega, w.step g3 h3⟩
      ·cases hn2 : needF R [sep] q1 with
       | bad o e => rw [hn2] at h; cases h
       | ok u q3 =>
        rw [hn2] at h
        have hm4 := needF_mono _ _ _ hn2
        obtain ⟨a, b, c⟩ := ih _ _ _ _ (by omega) (needF_lt w _ _ _ g3 hn2) ha' h
        exact ⟨a, by omega, c⟩
theorem fieldsF_good {ty : Nat -> PR Ty} {R : Rd} (w : R.Wf) (hm : R.Nm) {p : Nat} (ht : Good ty R p) {sep fin : List UInt8} {opt : Bool} (hp : p < R.ts.length) {l : List Fld} {q : Nat} (h : fieldsF ty R sep fin opt p = .ok l q) :
  FlW opt l /\ (∀ x ∈ ftys l, AllW x) /\ tsizeL (ftys l) + p <= q /\ q < R.ts.length := by
 rw [fieldsF] at h
 split at h
 ·rename_i h2
  cases h
  exact ⟨⟨by simp, List.Pairwise.nil, by simp⟩, by simp [ftys], by simp [ftys, tsizeL], w.step hp h2⟩
 ·cases hl : fieldsLoop ty R sep fin opt R.ts.length [] p with
  | bad o e => rw [hl] at h; cases h
  | ok l' q' =>
   rw [hl] at h
   cases h
   obtain ⟨a, b, c⟩ := fieldsLoop_good w hm ht sep fin opt _ _ _ _ _ (Nat.le_refl _) hp ⟨by simp, by simp, by simp, by simp⟩ hl
   have hp := isortK_perm (key := fun x : Fld => x.1) l'
   have hp2 : (ftys (isortK (·.1) l')).Perm (ftys l') := hp.map _
   refine ⟨⟨fun x hx => a.name x (hp.subset hx), isortK_srt a.nd, fun ho x hx => a.opt ho x (hp.subset hx)⟩, fun x hx => ?_, ?_, c⟩
   ·obtain ⟨y, hy, rfl⟩ := List.mem_map.1 (hp2.subset hx)
    exact a.all y hy
   ·rw [tsizeL_perm hp2]
    simp only [ftys, List.map_nil, tsizeL] at b ⊢
    omega
theorem typB_good {ty : Nat -> PR Ty} {R : Rd} (w : R.Wf) (hm : R.Nm) {kind : Nat} {text : List UInt8} {off p q : Nat} {t : Ty} (ht : Good ty R p)
  (hp : kind ≠ 0 -> p < R.ts.length) (h1 : kind = 1 -> isName text = true) (h2 : kind = 2 -> isType text = true) (h : typB ty R kind text off p = .ok t q) : AllW t /\ tsize t + p <= q + 1 /\ p <= q /\ q < R.ts.length := by
 obtain ⟨hlt1, hlt2⟩ := typB_lt w (fun p' t q a b c => ⟨(ht p' t q a b c).2.2.1, (ht p' t q a b c).2.2.2⟩) hp h
 suffices AllW t /\ tsize t + p <= q + 1 from ⟨this.1, this.2, hlt1, hlt2⟩
 unfold typB at h
 split at h
 ·have hp := hp (by omega)
  split at h
  ·rename_i k hb
   cases h
   refine ⟨.mk (.base ?_) (by simp [partsF, ftys]), by simp [tsize, tsizeL, tsizeF]; omega⟩
   unfold basicK at hb
   split at hb
   ·cases hb; omega
   ·split at hb
    ·cases hb; omega
    ·split at hb
     ·cases hb; omega
     ·split at hb
      ·cases hb; omega
      ·split at hb
       ·cases hb; omega
       ·cases hb
  ·split at h
   ·obtain ⟨a, ha, rfl⟩ := map_ok h
    rw [bracketF] at ha
    cases hn : needF R [[91]] p with
    | bad o e => rw [hn] at ha; cases ha
    | ok u q1 =>
     rw [hn] at ha
     dsimp only at ha
     have hmm := needF_mono _ _ _ hn
     have hq := needF_lt w _ _ _ hp hn
     cases e1 : ty q1 with
     | bad o e => rw [e1] at ha; cases ha
     | ok t q2 =>
      rw [e1] at ha
      dsimp only at ha
      obtain ⟨g0, g1, g2, g3⟩ := ht q1 t q2 (by omega) hq e1
      cases hn2 : needF R [[93]] q2 with
      | bad o e => rw [hn2] at ha; cases ha
      | ok u q3 =>
       rw [hn2] at ha
       cases ha
       have hm2 := needF_mono _ _ _ hn2
       exact ⟨.mk .list (by simp [partsF, ftys]; exact g0), by simp [tsize, tsizeL, tsizeF]; omega⟩
   ·split at h
    ·cases hn : needF R [[40]] p with
     | bad o e => rw [hn] at h; cases h
     | ok u q1 =>
      rw [hn] at h
      dsimp only at h
      have hmm := needF_mono _ _ _ hn
      have hq := needF_lt w _ _ _ hp hn
      cases hf : fieldsF ty R [44] [41] true q1 with
      | bad o e => rw [hf] at h; cases h
      | ok l q2 =>
       rw [hf] at h
       dsimp only at h
       obtain ⟨g0, g1, g2, g3⟩ := fieldsF_good w hm (fun p' t q h1 => ht p' t q (by omega)) hq hf
       obtain ⟨a, ha, rfl⟩ := map_ok h
       obtain ⟨k0, k1, k2, k3⟩ := ht q2 a q (by omega) g3 ha
       refine ⟨.mk (.func g0) (fun x hx => ?_), ?_⟩
       ·simp only [partsF, List.mem_append, List.mem_singleton] at hx
        rcases hx with rfl | hx
        ·exact k0
        ·exact g1 x hx
       ·simp only [tsize, tsizeL, tsizeF_eq]; omega
    ·cases h
 ·split at h
  ·have hp := hp (by omega)
   split at h
   ·obtain ⟨a, ha, rfl⟩ := map_ok h
    obtain ⟨g0, g1, g2, g3⟩ := fieldsF_good w hm ht hp ha
    exact ⟨.mk (.rcd g0) (by simpa [partsF] using g1), by simp only [tsize, tsizeL, tsizeF_eq]; omega⟩
   ·split at h
    ·obtain ⟨a, ha, rfl⟩ := map_ok h
     obtain ⟨g0, g1, g2, g3⟩ := fieldsF_good w hm ht hp ha
     exact ⟨.mk (.vrt g0) (by simpa [partsF] using g1), by simp only [tsize, tsizeL, tsizeF_eq]; omega⟩
    ·cases h
  ·split at h
   ·rename_i hk
    obtain ⟨a, ha, rfl⟩ := map_ok h
    obtain ⟨g0, g1, g2⟩ := argsF_good w ht (hp (by omega)) ha
    exact ⟨.mk (.ref (.inl rfl) (h2 hk)) (by simpa [partsF, ftys] using g0), by simp only [tsize, tsizeF]; omega⟩
   ·split at h
    ·rename_i hk
     have hp := hp (by omega)
     cases hn : needF R [[58, 58]] p with
     | bad o e => rw [hn] at h; cases h
     | ok u q1 =>
      rw [hn] at h
      dsimp only at h
      have hmm := needF_mono _ _ _ hn
      have hq := needF_lt w _ _ _ hp hn
      split at h
      ·cases h
      ·rename_i hk2
       have hk2 : (R.tok q1).kind = 2 := by simpa using hk2
       obtain ⟨a, ha, rfl⟩ := map_ok h
       obtain ⟨g0, g1, g2⟩ := argsF_good w (fun p' t q h1 => ht p' t q (by omega)) (w.go q1 _ (Rd.tok_some hq) (by omega)) ha
       exact ⟨.mk (.ref (.inr (h1 hk)) ((hm q1 hq).2 hk2)) (by simpa [partsF, ftys] using g0), by simp only [tsize, tsizeF]; omega⟩
    ·cases h
theorem typF_good {R : Rd} (w : R.Wf) (hm : R.Nm) : ∀ (f : Nat), Good (typF R f) R 0 := by
 intro f
 induction f with
 | zero => intro p t q _ _ h; cases h
 | succ f ih =>
  intro p t q _ hp h
  rw [typF] at h
  obtain ⟨a, b, c, d⟩ := typB_good w hm (p := p + 1) (fun p' t q _ h1 h2 => ih p' t q (Nat.zero_le _) h1 h2) (fun hk => w.go p _ (Rd.tok_some hp) hk) (hm p hp).1 (hm p hp).2 h
  exact ⟨a, by omega, by omega, d⟩
theorem tok_ts {R R' : Rd} (h : R.ts = R'.ts) (p : Nat) : R.tok p = R'.tok p := by unfold Rd.tok; rw [h]
theorem needF_ts {R R' : Rd} (h : R.ts = R'.ts) : ∀ (l : List (List UInt8)) (p : Nat), needF R l p = needF R' l p := by
 intro l
 induction l with
 | nil => intro p; rfl
 | cons s l ih => intro p; rw [needF, needF, tok_ts h, ih]
theorem argsLoop_ts {R R' : Rd} (h : R.ts = R'.ts) (ty : Nat -> PR Ty) : ∀ (f : Nat) (acc : List Ty) (p : Nat), argsLoop ty R f acc p = argsLoop ty R' f acc p := by
 intro f
 induction f with
 | zero => intro acc p; rfl
 | succ f ih =>
  intro acc p
  rw [argsLoop, argsLoop]
  cases ty p with
  | bad o e => rfl
  | ok t q => dsimp only; rw [tok_ts h, ih, needF_ts h]
theorem argsF_ts {R R' : Rd} (h : R.ts = R'.ts) (ty : Nat -> PR Ty) (p : Nat) : argsF ty R p = argsF ty R' p := by
 rw [argsF, argsF, tok_ts h, argsLoop_ts h, h]
theorem bracketF_ts {R R' : Rd} (h : R.ts = R'.ts) (ty : Nat -> PR Ty) (p : Nat) : bracketF ty R p = bracketF ty R' p := by
 rw [bracketF, bracketF, needF_ts h]
 cases needF R' [[91]] p with
 | bad o e => rfl
 | ok u q =>
  dsimp only
  cases ty q with
  | bad o e => rfl
  | ok t q1 => dsimp only; rw [needF_ts h]
theorem fieldsLoop_ts {R R' : Rd} (h : R.ts = R'.ts) (ty : Nat -> PR Ty) (sep fin : List UInt8) (opt : Bool) : ∀ (f : Nat) (acc : List Fld) (q : Nat), fieldsLoop ty R sep fin opt f acc q = fieldsLoop ty R' sep fin opt f acc q := by
 intro f
 induction f with
 | zero => intro acc q; rfl
 | succ f ih =>
  intro acc q
  rw [fieldsLoop, fieldsLoop, tok_ts h, tok_ts h (q + 1), needF_ts h]
  split
  ·rfl
  ·split
   ·rfl
   ·cases needF R' [[58]] (if (opt && isTok (R'.tok (q + 1)) [63]) = true then q + 1 + 1 else q + 1) with
    | bad o e => rfl
    | ok u q2 =>
     dsimp only
     cases ty q2 with
     | bad o e => rfl
     | ok t q1 =>
      dsimp only
      rw [tok_ts h, needF_ts h]
      split
      ·rfl
      ·cases needF R' [sep] q1 with
       | bad o e => rfl
       | ok u q3 => exact ih _ _
theorem fieldsF_ts {R R' : Rd} (h : R.ts = R'.ts) (ty : Nat -> PR Ty) (sep fin : List UInt8) (opt : Bool) (p : Nat) : fieldsF ty R sep fin opt p = fieldsF ty R' sep fin opt p := by
 rw [fieldsF, fieldsF, tok_ts h, fieldsLoop_ts h, h]
theorem typB_ts {R R' : Rd} (h : R.ts = R'.ts) (ty : Nat -> PR Ty) (kind : Nat) (text : List UInt8) (off q : Nat) : typB ty R kind text off q = typB ty R' kind text off q := by
 have e1 : ∀ p, bracketF ty R p = bracketF ty R' p := bracketF_ts h ty
 have e2 : ∀ l p, needF R l p = needF R' l p := needF_ts h
 have e3 : ∀ s f o p, fieldsF ty R s f o p = fieldsF ty R' s f o p := fieldsF_ts h ty
 have e4 : ∀ p, argsF ty R p = argsF ty R' p := argsF_ts h ty
 have e5 : ∀ p, R.tok p = R'.tok p := tok_ts h
 unfold typB
 simp only [e1, e2, e3, e4, e5]
theorem typF_ts {R R' : Rd} (h : R.ts = R'.ts) : ∀ (f : Nat), typF R f = typF R' f := by
 intro f
 induction f with
 | zero => rfl
 | succ f ih =>
  funext p
  rw [typF, typF, ih, tok_ts h, typB_ts h]
def PR.E {α : Type} (x : PR α) : Prop := ∀ off e, x = .bad off e -> e ≠ 0
theorem PR.E.ok {α : Type} {a : α} {q : Nat} : (PR.ok a q).E := fun off e h => by cases h
theorem PR.E.bad {α : Type} {off e : Nat} (h : e ≠ 0) : (PR.bad off e : PR α).E := fun _ _ h' => by cases h'; exact h
theorem PR.E.get {α : Type} {off e : Nat} (h : (PR.bad off e : PR α).E) : e ≠ 0 := h off e rfl
theorem PR.E.map {α β : Type} {g : α -> β} {x : PR α} (h : x.E) : (x.map g).E := by
 cases x with
 | ok a q => exact .ok
 | bad o e => exact .bad h.get
theorem needF_E (R : Rd) : ∀ (l : List (List UInt8)) (p : Nat), (needF R l p).E := by
 intro l
 induction l with
 | nil => intro p; exact .ok
 | cons s l ih =>
  intro p
  rw [needF]
  split
  ·exact ih _
  ·exact .bad (by decide)
theorem argsLoop_E {ty : Nat -> PR Ty} (ht : ∀ p, (ty p).E) (R : Rd) : ∀ (f : Nat) (acc : List Ty) (p : Nat), (argsLoop ty R f acc p).E := by
 intro f
 induction f with
 | zero => intro acc p; exact .bad (by decide)
 | succ f ih =>
  intro acc p
  rw [argsLoop]
  have h1 := ht p
  cases hx : ty p with
  | bad o e => rw [hx] at h1; exact .bad h1.get
  | ok t q =>
   dsimp only
   split
   ·exact ih _ _
   ·have h2 := needF_E R [[93]] q
    cases hy : needF R [[93]] q with
    | ok u q' => exact .ok
    | bad o e => rw [hy] at h2; exact .bad h2.get
theorem argsF_E {ty : Nat -> PR Ty} (ht : ∀ p, (ty p).E) (R : Rd) (p : Nat) : (argsF ty R p).E := by
 rw [argsF]
 split
 ·exact argsLoop_E ht R _ _ _
 ·exact .ok
theorem bracketF_E {ty : Nat -> PR Ty} (ht : ∀ p, (ty p).E) (R : Rd) (p : Nat) : (bracketF ty R p).E := by
 rw [bracketF]
 have h1 := needF_E R [[91]] p
 cases hx : needF R [[91]] p with
 | bad o e => rw [hx] at h1; exact .bad h1.get
 | ok u q =>
  dsimp only
  have h2 := ht q
  cases hy : ty q with
  | bad o e => rw [hy] at h2; exact .bad h2.get
  | ok t q1 =>
   dsimp only
   have h3 := needF_E R [[93]] q1
   cases hz : needF R [[93]] q1 with
   | bad o e => rw [hz] at h3; exact .bad h3.get
   | ok u q2 => exact .ok
theorem fieldsLoop_E {ty : Nat -> PR Ty} (ht : ∀ p, (ty p).E) (R : Rd) (sep fin : List UInt8) (opt : Bool) : ∀ (f : Nat) (acc : List Fld) (q : Nat), (fieldsLoop ty R sep fin opt f acc q).E := by
 intro f
 induction f with
 | zero => intro acc q; exact .bad (by decide)
 | succ f ih =>
  intro acc q
  rw [fieldsLoop]
  split
  ·exact .bad (by decide)
  ·split
   ·exact .bad (by decide)
   ·generalize (if (opt && isTok (R.tok (q + 1)) [63]) = true then q + 1 + 1 else q + 1) = q0
    have h1 := needF_E R [[58]] q0
    cases hx : needF R [[58]] q0 with
    | bad o e => rw [hx] at h1; exact .bad h1.get
    | ok u q2 =>
     dsimp only
     have h2 := ht q2
     cases hy : ty q2 with
     | bad o e => rw [hy] at h2; exact .bad h2.get
     | ok t q1 =>
      dsimp only
      split
      ·exact .ok
      ·have h3 := needF_E R [sep] q1
       cases hz : needF R [sep] q1 with
       | bad o e => rw [hz] at h3; exact .bad h3.get
       | ok u q3 => exact ih _ _
theorem fieldsF_E {ty : Nat -> PR Ty} (ht : ∀ p, (ty p).E) (R : Rd) (sep fin : List UInt8) (opt : Bool) (p : Nat) : (fieldsF ty R sep fin opt p).E := by
 rw [fieldsF]
 split
 ·exact .ok
 ·exact (fieldsLoop_E ht R sep fin opt _ _ _).map
theorem typB_E {ty : Nat -> PR Ty} (ht : ∀ p, (ty p).E) (R : Rd) (kind : Nat) (text : List UInt8) (off q : Nat) : (typB ty R kind text off q).E := by
 have e3 : (PR.bad off 3 : PR Ty).E := .bad (by decide)
 unfold typB
 split
 ·split
  ·exact .ok
  ·split
   ·exact (bracketF_E ht R q).map
   ·split
    ·have h1 := needF_E R [[40]] q
     cases hx : needF R [[40]] q with
     | bad o e => rw [hx] at h1; exact .bad h1.get
     | ok u q1 =>
      dsimp only
      have h2 := fieldsF_E ht R [44] [41] true q1
      cases hy : fieldsF ty R [44] [41] true q1 with
      | bad o e => rw [hy] at h2; exact .bad h2.get
      | ok l q2 => exact (ht q2).map
    ·exact e3
 ·split
  ·split
   ·exact (fieldsF_E ht R _ _ _ _).map
   ·split
    ·exact (fieldsF_E ht R _ _ _ _).map
    ·exact e3
  ·split
   ·exact (argsF_E ht R q).map
   ·split
    ·have h1 := needF_E R [[58, 58]] q
     cases hx : needF R [[58, 58]] q with
     | bad o e => rw [hx] at h1; exact .bad h1.get
     | ok u q1 =>
      dsimp only
      split
      ·exact .bad (by decide)
      ·exact (argsF_E ht R _).map
    ·exact e3
theorem typF_E (R : Rd) : ∀ (f p : Nat), (typF R f p).E := by
 intro f
 induction f with
 | zero => intro p; exact .bad (by decide)
 | succ f ih => intro p; rw [typF]; exact typB_E ih R _ _ _ _
def zeroT : Ty := .mk 0 [] [] [] []
theorem zeroT_D : TyD zeroT [.int .i64 (Int.ofNat 0), .str [], .str [], .nils, .nils] := .mk .nil .nil
def parseF (s : List UInt8) : Ty × Nat × Nat := match lexF s with
 | .err off e => (zeroT, off, e)
 | .ok ts => match typF ⟨0, 0, ts⟩ ts.length 0 with
  | .bad off e => (zeroT, off, e)
  | .ok t q => if (Rd.tok ⟨0, 0, ts⟩ q).kind ≠ 0 then (zeroT, (Rd.tok ⟨0, 0, ts⟩ q).off, 3) else if badT t = true then (zeroT, 0, 7) else (t, 0, 0)
def typeP (s : List UInt8) (r : VCR) : Prop := ∃ d, TyD (parseF s).1 d /\ r = .ret (.tup [.agg (d.map V.d), intV (parseF s).2.1, intV (parseF s).2.2])
theorem typeP_zero {s : List UInt8} {off e : Nat} (h : parseF s = (zeroT, off, e)) : typeP s (.ret (.tup [.agg [.d (.int .i64 0), .d (.str []), .d (.str []), .d .nils, .d .nils], intV off, intV e])) := by
 rw [typeP, h]
 exact ⟨_, zeroT_D, rfl⟩
theorem e_ne {e : Nat} (h : e ≠ 0) : decide (Int.ofNat e = 0) = false := decide_eq_false fun h' => h (by simp only [Int.ofNat_eq_natCast] at h'; omega)
set_option maxHeartbeats 4000000 in
theorem ptype_spec0 (s : List UInt8) : VCall C intr0 F.parser_Type [strV s] [] fun r σ' => σ' = [] /\ closedCR r = true /\ typeP s r := by
 refine VCall.b1 nofz (fun _ => rfl) ?_
 refine read_spec s (fun r hr => ?_)
 unfold readP at hr
 cases hx : lexF s with
 | err off e =>
  rw [hx] at hr
  have hr : r = .ret (.tup [zeroTyV, intV off, intV e]) := hr
  subst hr
  have hne := lexF_err hx
  have hp : parseF s = (zeroT, off, e) := by rw [parseF, hx]
  refine vcn (e_ne hne) ?_
  refine VUpd.drop 0 ?_ ?_ ?_ ?_
  iterate 3 exact rfl
  refine VUpd.now rfl ⟨rfl, rfl, typeP_zero hp⟩
 | ok ts =>
  rw [hx] at hr
  dsimp only at hr
  obtain ⟨b, cap, hr⟩ := hr
  obtain ⟨w, hpos⟩ := Rd.wf_of (R := ⟨b, cap, ts⟩) hx
  have hnm := Rd.nm_of (R := ⟨b, cap, ts⟩) hx
  have e0 : typF ⟨b, cap, ts⟩ ts.length = typF ⟨0, 0, ts⟩ ts.length := typF_ts (R := ⟨b, cap, ts⟩) (R' := ⟨0, 0, ts⟩) rfl _
  have hgood := typF_good w hnm ts.length
  rw [e0] at hr hgood
  cases hy : typF ⟨0, 0, ts⟩ ts.length 0 with
  | bad off e =>
   rw [hy] at hr
   have hr : r = .ret (.tup [zeroTyV, intV off, intV e]) := hr
   subst hr
   have hne := typF_E _ _ _ off e hy
   have hp : parseF s = (zeroT, off, e) := by rw [parseF, hx]; dsimp only; rw [hy]
   refine vcn (e_ne hne) ?_
   refine VUpd.drop 0 ?_ ?_ ?_ ?_
   iterate 3 exact rfl
   refine VUpd.now rfl ⟨rfl, rfl, typeP_zero hp⟩
  | ok t q =>
   rw [hy] at hr
   dsimp only at hr
   have hp : parseF s = if (Rd.tok ⟨0, 0, ts⟩ q).kind ≠ 0 then (zeroT, (Rd.tok ⟨0, 0, ts⟩ q).off, 3) else if badT t = true then (zeroT, 0, 7) else (t, 0, 0) := by rw [parseF, hx]; dsimp only; rw [hy]
   have e1 : Rd.tok ⟨b, cap, ts⟩ q = Rd.tok ⟨0, 0, ts⟩ q := tok_ts (R := ⟨b, cap, ts⟩) (R' := ⟨0, 0, ts⟩) rfl q
   rw [e1] at hr
   by_cases hk : (Rd.tok ⟨0, 0, ts⟩ q).kind ≠ 0
   ·rw [if_pos hk] at hr hp
    subst hr
    refine VUpd.drop 0 ?_ ?_ ?_ ?_
    iterate 3 exact rfl
    refine VUpd.now rfl ⟨rfl, rfl, typeP_zero hp⟩
   ·rw [if_neg hk] at hr hp
    obtain ⟨d, hd, rfl⟩ := hr
    obtain ⟨ha, hs, _, hq⟩ := hgood 0 t q (Nat.le_refl _) hpos hy
    have hl := w.len
    have hq : q < ts.length := hq
    have hl : ts.length < 4294967296 := hl
    obtain ⟨k, m, nm, a, f, rfl⟩ := hd.five
    refine checkType_spec t _ hd ha (by omega) ?_
    cases hb : badT t with
    | true =>
     rw [hb, if_pos rfl] at hp
     refine VUpd.drop 0 ?_ ?_ ?_ ?_
     iterate 3 exact rfl
     refine VUpd.now rfl ⟨rfl, rfl, typeP_zero hp⟩
    | false =>
     rw [hb, if_neg (by decide)] at hp
     refine VUpd.drop 0 ?_ ?_ ?_ ?_
     iterate 3 exact rfl
     refine VUpd.now rfl ⟨rfl, rfl, by rw [typeP, hp]; exact ⟨_, hd, rfl⟩⟩
theorem ptype_spec (s : List UInt8) {σ : VS} {K : VCR -> VS -> Prop} (hk : ∀ r, typeP s r -> K r σ) : VCall C intr0 F.parser_Type [strV s] σ K :=
 VCall.closed (ptype_spec0 s) rfl hk
end Go.Proofs.YthfehkcfhiilfaaGreatDoor
