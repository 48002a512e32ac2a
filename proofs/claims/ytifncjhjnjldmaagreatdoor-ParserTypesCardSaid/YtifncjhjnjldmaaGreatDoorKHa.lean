/- The law ParserTypes over the lifted machine. -/
import Derived.Test.YtifncjhjnjldmaaGreatDoorKPc
import Derived.Test.YtifncjhjnjldmaaGreatDoorKGb
import Derived.Test.YtifncjhjnjldmaaGreatDoorKYc
import Derived.Test.YtifncjhjnjldmaaGreatDoorKFb
import Derived.Test.YtifncjhjnjldmaaGreatDoorKYa
namespace Go.Proofs.YtifncjhjnjldmaaGreatDoor set_option linter.unusedSimpArgs false set_option linter.unusedVariables false
open Go.AM Go.VM
theorem rtyp_ok {R : Rd} (w : R.Wf) (hkd : R.Kd) : ∀ (f lo : Nat), R.ts.length - lo <= f -> RTyp (typF R f) R lo := by
 intro f
 induction f with
 | zero => intro lo h; exact ⟨fun p t q h1 h2 => by omega, fun p h1 h2 => by omega, fun x hx hp σ K hk => rtyp_err R w x hx hp hk⟩
 | succ f ih =>
  intro lo h
  refine ⟨fun p t q _ h2 h3 => typF_lt w _ p t q h2 h3, fun p h1 h2 σ K k1 k2 => ?_, fun x hx hp σ K hk => rtyp_err R w x hx hp hk⟩
  refine VCall.closed (P := rtyP R (typF R (f + 1) p)) (rtyp_spec0 R w hkd (typF R f) p h2 (ih (p + 1) (by omega)) _ rfl) rfl (fun r h => ?_)
  unfold rtyP at h
  split at h
  ·rename_i t q e
   obtain ⟨d, hd, rfl⟩ := h
   exact k1 t d q e hd
  ·rename_i off e' e
   obtain ⟨hne, k, m, n, a, f, q, hq, rfl⟩ := h
   exact k2 off e' q k m n a f e hne hq
def startP (s : List UInt8) (r : VCR) : Prop := match lexF s with
 | .ok ts => ∃ b cap, r = .ret ((RS.at 0).v ⟨b, cap, ts⟩)
 | .err off e => r = .ret (.agg [.d .nils, intV 0, intV off, intV e])
set_option maxHeartbeats 4000000 in
theorem rstart_spec (s : List UInt8) {σ : VS} {K : VCR -> VS -> Prop} (hk : ∀ r, startP s r -> K r σ) : VCall C intr0 F.modcertref05_start [strV s] σ K := by
 refine VCall.closed (P := startP s) ?_ rfl hk
 refine VCall.b1 nofz (fun _ => rfl) ?_
 refine r_lex_spec s (fun r hr => ?_)
 cases hx : lexF s with
 | err off e =>
  rw [hx] at hr
  have hr : r = .ret (.tup [.d .nils, intV off, intV e]) := hr
  subst hr
  refine VUpd.drop 0 ?_ ?_ ?_ ?_
  iterate 3 exact rfl
  refine VUpd.now rfl ⟨rfl, rfl, by rw [startP, hx]; rfl⟩
 | ok ts =>
  rw [hx] at hr
  obtain ⟨b, cap, rfl⟩ := hr
  refine VUpd.drop 0 ?_ ?_ ?_ ?_
  iterate 3 exact rfl
  refine VUpd.now rfl ⟨rfl, rfl, by rw [startP, hx]; exact ⟨b, cap, rfl⟩⟩
theorem rend_ok (R : Rd) (x : RS) (h : x.e ≠ 0 ∨ (R.tok x.p).kind = 0) (hp : x.p < R.ts.length) {σ : VS} {K : VCR -> VS -> Prop} (hk : K (.ret (x.v R)) σ) : VCall C intr0 F.modcertref05_end [x.v R] σ K := by
 refine VCall.pure ?_ rfl rfl hk
 refine VCall.b1 nofz (fun _ => rfl) ?_
 refine vci (fun h1 => ?_) (fun h1 => ?_)
 ·have h1' : x.e = 0 := eqz h1
  have h2 := h.resolve_left (fun hn => hn h1')
  repeat (change vcond _ _ _; first | refine vcp (by with_reducible exact h1) ?_)
  refine risKind_spec R x 0 hp ?_
  rw [RS.isKind, decide_eq_true h1', decide_eq_true h2]
  repeat (change vcond _ _ _; first | refine vcp (by with_reducible exact h1) ?_)
  refine fin0 ?_ ?_ <;> exact rfl
 ·repeat (change vcond _ _ _; first | refine vcn (by with_reducible exact h1) ?_)
  refine fin0 ?_ ?_ <;> exact rfl
theorem rend_no (R : Rd) (q : Nat) (h : (R.tok q).kind ≠ 0) (hp : q < R.ts.length) {σ : VS} {K : VCR -> VS -> Prop} (hk : K (.ret ((RS.mk q (R.tok q).off 3).v R)) σ) : VCall C intr0 F.modcertref05_end [(RS.at q).v R] σ K := by
 refine VCall.pure ?_ rfl rfl hk
 refine VCall.b1 nofz (fun _ => rfl) ?_
 refine risKind_spec R (RS.at q) 0 hp ?_
 rw [RS.isKind_at, decide_eq_false h]
 refine rwrong_spec R (RS.at q) hp ?_
 refine fin0 ?_ ?_ <;> exact rfl
set_option maxRecDepth 100000 in
set_option maxHeartbeats 8000000 in
theorem rtype_spec0 (s : List UInt8) : VCall C intr0 F.modcertref05_Type [strV s] [] fun r σ' => σ' = [] /\ closedCR r = true /\ typeP s r := by
 refine VCall.b1 nofz (fun _ => rfl) ?_
 refine rstart_spec s (fun r hr => ?_)
 unfold startP at hr
 cases hx : lexF s with
 | err off e =>
  rw [hx] at hr
  have hr : r = .ret (.agg [.d .nils, intV 0, intV off, intV e]) := hr
  subst hr
  have hne := lexF_err hx
  have hp : parseF s = (zeroT, off, e) := by rw [parseF, hx]
  refine vci (fun h9 => ?_) (fun h9 => absurd (nz_of h9) hne)
  repeat refine vni (by repeat' (first | exact trivial | exact rfl | refine vnf rfl ?_ | refine And.intro ?_ ?_)) ?_
  refine VUpd.drop 0 ?_ ?_ ?_ ?_
  iterate 3 exact rfl
  refine VUpd.now rfl ⟨rfl, rfl, typeP_zero hp⟩
 | ok ts =>
  rw [hx] at hr
  obtain ⟨b, cap, rfl⟩ := hr
  obtain ⟨w, hpos⟩ := Rd.wf_of (R := ⟨b, cap, ts⟩) hx
  have hnm := Rd.nm_of (R := ⟨b, cap, ts⟩) hx
  have hkd := Rd.kd_of (R := ⟨b, cap, ts⟩) hx
  have e0 : typF ⟨b, cap, ts⟩ ts.length = typF ⟨0, 0, ts⟩ ts.length := typF_ts (R := ⟨b, cap, ts⟩) (R' := ⟨0, 0, ts⟩) rfl _
  have hgood := typF_good w hnm ts.length
  have hty := rtyp_ok w hkd ts.length 0 (Nat.sub_le _ _)
  rw [e0] at hgood hty
  refine hty.call 0 (Nat.le_refl _) hpos _ _ (fun t d q hy hd => ?_) (fun off e q k m n a f hy hne hq => ?_)
  ·have hp : parseF s = if (Rd.tok ⟨0, 0, ts⟩ q).kind ≠ 0 then (zeroT, (Rd.tok ⟨0, 0, ts⟩ q).off, 3) else if badT t = true then (zeroT, 0, 7) else (t, 0, 0) := by rw [parseF, hx]; dsimp only; rw [hy]
   have e1 : Rd.tok ⟨b, cap, ts⟩ q = Rd.tok ⟨0, 0, ts⟩ q := tok_ts (R := ⟨b, cap, ts⟩) (R' := ⟨0, 0, ts⟩) rfl q
   rw [<- e1] at hp
   obtain ⟨ha, hs, _, hq⟩ := hgood 0 t q (Nat.le_refl _) hpos hy
   have hl := w.len
   have hq : q < ts.length := hq
   have hl : ts.length < 4294967296 := hl
   obtain ⟨k, m, nm, a, f, rfl⟩ := hd.five
   by_cases hk : (Rd.tok ⟨b, cap, ts⟩ q).kind ≠ 0
   ·rw [if_pos hk] at hp
    refine rend_no _ q hk hq ?_
    repeat refine vni (by repeat' (first | exact trivial | exact rfl | refine vnf rfl ?_ | refine And.intro ?_ ?_)) ?_
    refine VUpd.drop 0 ?_ ?_ ?_ ?_
    iterate 3 exact rfl
    refine VUpd.now rfl ⟨rfl, rfl, typeP_zero hp⟩
   ·rw [if_neg hk] at hp
    have hk0 : (Rd.tok ⟨b, cap, ts⟩ q).kind = 0 := by omega
    refine rend_ok ⟨b, cap, ts⟩ (RS.at q) (.inr hk0) hq ?_
    repeat refine vni (by repeat' (first | exact trivial | exact rfl | refine vnf rfl ?_ | refine And.intro ?_ ?_)) ?_
    refine rcheck_spec t _ hd ha (by omega) ?_
    cases hb : badT t with
    | true =>
     rw [hb, if_pos rfl] at hp
     repeat refine vni (by repeat' (first | exact trivial | exact rfl | refine vnf rfl ?_ | refine And.intro ?_ ?_)) ?_
     refine rfail_spec ⟨b, cap, ts⟩ (RS.at q) 0 7 ?_
     repeat refine vni (by repeat' (first | exact trivial | exact rfl | refine vnf rfl ?_ | refine And.intro ?_ ?_)) ?_
     refine VUpd.drop 0 ?_ ?_ ?_ ?_
     iterate 3 exact rfl
     refine VUpd.now rfl ⟨rfl, rfl, typeP_zero hp⟩
    | false =>
     rw [hb, if_neg (by decide)] at hp
     repeat refine vni (by repeat' (first | exact trivial | exact rfl | refine vnf rfl ?_ | refine And.intro ?_ ?_)) ?_
     refine rfail_spec ⟨b, cap, ts⟩ (RS.at q) 0 0 ?_
     repeat refine vni (by repeat' (first | exact trivial | exact rfl | refine vnf rfl ?_ | refine And.intro ?_ ?_)) ?_
     refine VUpd.drop 0 ?_ ?_ ?_ ?_
     iterate 3 exact rfl
     refine VUpd.now rfl ⟨rfl, rfl, by rw [typeP, hp]; exact ⟨_, hd, rfl⟩⟩
  ·have hp : parseF s = (zeroT, off, e) := by rw [parseF, hx]; dsimp only; rw [hy]
   refine rend_ok ⟨b, cap, ts⟩ ⟨q, off, e⟩ (.inl hne) hq ?_
   refine vcn (e_ne hne) ?_
   refine vci (fun h9 => ?_) (fun h9 => absurd (nz_of h9) hne)
   repeat refine vni (by repeat' (first | exact trivial | exact rfl | refine vnf rfl ?_ | refine And.intro ?_ ?_)) ?_
   refine VUpd.drop 0 ?_ ?_ ?_ ?_
   iterate 3 exact rfl
   refine VUpd.now rfl ⟨rfl, rfl, typeP_zero hp⟩
theorem rtype_spec (s : List UInt8) {σ : VS} {K : VCR -> VS -> Prop} (hk : ∀ r, typeP s r -> K r σ) : VCall C intr0 F.modcertref05_Type [strV s] σ K :=
 VCall.closed (rtype_spec0 s) rfl hk
theorem nself (a : Nat) : (!decide (Int.ofNat a = Int.ofNat a)) = false := by simp
theorem nselfB (a : Bool) : (!decide (a = a)) = false := by simp
theorem nselfS (a : List UInt8) : (!decide (a = a)) = false := by simp
set_option maxHeartbeats 4000000 in
theorem eqtl_spec (n : Nat) (ih : ∀ (t : Ty) (d d' : List D), tsize t <= n -> TyD t d -> TyD t d' -> ∀ {σ : VS} {K : VCR -> VS -> Prop}, K (.ret (boolV true)) σ -> VCall C intr0 F.modcertref04_EqualTypes [.agg (d.map V.d), .agg (d'.map V.d)] σ K)
  (l : List Ty) (a a' : D) (hl : tsizeL l <= n) (hn : n < 4294967295) (ha : ArgsD l a) (ha' : ArgsD l a') {σ : VS} {K : VCR -> VS -> Prop} (hk : K (.ret (boolV true)) σ) : VCall C intr0 F.modcertref04_EqualTypeLists [.d a, .d a'] σ K := by
 refine VCall.b0 nofz (fun _ => rfl) ?_
 have hll := tsizeL_len l
 cases ha with
 | nil =>
  cases ha' with
  | ps h hne => cases h; exact absurd rfl hne
  | nil =>
   refine VCode.loop ?_
   exact hk
 | ps h hne =>
  cases ha' with
  | nil => cases h; exact absurd rfl hne
  | ps h' hne' =>
   rename_i b o cap els b' o' cap' els'
   have e1 := h.len
   have e2 := h'.len
   have he : (!decide (Int.ofNat els.length = Int.ofNat els'.length)) = false := by rw [e1, e2]; exact nself _
   refine vcn he ?_
   refine VCode.less (tm0 := [(0, .d (.ps b o 5 cap els)), (1, .d (.ps b' o' 5 cap' els')), (5, intV 0)]) ⟨rfl, rfl, rfl, trivial⟩ ?_
   refine VCode.iter (fun i : Nat => [(0, .d (.ps b o 5 cap els)), (1, .d (.ps b' o' 5 cap' els')), (5, intV i)]) (fun _ => σ) (fun i => l.length - i) (fun i => i <= l.length) ?_ 0 (Nat.zero_le _)
   intro i hi
   refine vci (fun hc => ?_) (fun hc => ?_)
   ·have hi' : i < l.length := e1 ▸ dlt hc
    obtain ⟨d, hx, hxt⟩ := h.get hi'
    obtain ⟨d', hx', hxt'⟩ := h'.get hi'
    have hle := tsizeL_mem (List.getElem_mem hi')
    obtain ⟨k2, m2, nm2, a2, f2, rfl⟩ := hxt.five
    obtain ⟨k3, m3, nm3, a3, f3, rfl⟩ := hxt'.five
    have hx1 : nth els i = some [.int .i64 (Int.ofNat k2), .str m2, .str nm2, a2, f2] := by rw [nth_eq]; exact hx
    have hx1' : nth els' i = some [.int .i64 (Int.ofNat k3), .str m3, .str nm3, a3, f3] := by rw [nth_eq]; exact hx'
    repeat first | refine vnf rfl ?_ | refine exf _ hx1 ?_ | refine exf _ hx1' ?_
    repeat refine vni (by repeat' (first | exact trivial | exact rfl | refine vnf rfl ?_ | refine vnf rfl ?_ | refine exf _ hx1 ?_ | refine exf _ hx1' ?_ | refine And.intro ?_ ?_)) ?_
    refine ih l[i] _ _ (by omega) hxt hxt' ?_
    repeat refine vni (by repeat' (first | exact trivial | exact rfl | refine vnf rfl ?_ | refine vnf rfl ?_ | refine exf _ hx1 ?_ | refine exf _ hx1' ?_ | refine And.intro ?_ ?_)) ?_
    refine ⟨i + 1, hi', by show l.length - (i + 1) < l.length - i; omega, .same ⟨rfl, rfl, int_eq (wrap_succ (by omega)), trivial⟩ rfl, rfl, rfl⟩
   ·have hi' : l.length <= i := e1 ▸ dnlt hc
    exact hk
set_option maxRecDepth 100000 in
set_option maxHeartbeats 8000000 in
theorem eqt_spec0 (n : Nat) (ih : ∀ (t : Ty) (d d' : List D), tsize t <= n -> TyD t d -> TyD t d' -> ∀ {σ : VS} {K : VCR -> VS -> Prop}, K (.ret (boolV true)) σ -> VCall C intr0 F.modcertref04_EqualTypes [.agg (d.map V.d), .agg (d'.map V.d)] σ K)
  (t : Ty) (d d' : List D) (ht : tsize t <= n + 1) (hn : n + 1 < 4294967295) (hd : TyD t d) (hd' : TyD t d') : VCall C intr0 F.modcertref04_EqualTypes [.agg (d.map V.d), .agg (d'.map V.d)] [] fun r σ' => σ' = [] /\ r = .ret (boolV true) := by
 cases hd with
 | mk ha hf =>
  rename_i k m nm args fields a f
  cases hd' with
  | mk ha' hf' =>
   rename_i a' f'
   have hsz : tsizeL args + tsizeF fields <= n := by simp only [tsize] at ht; omega
   have hfs := tsizeF_eq fields
   have hfn : fields.length <= tsizeL (ftys fields) := by have := tsizeL_len (ftys fields); rwa [show (ftys fields).length = fields.length from by simp [ftys]] at this
   refine VCall.b1 nofz (fun _ => rfl) ?_
   repeat first | refine vcn (nself _) ?_ | refine vcn (nselfS _) ?_ | refine vcn (nselfB _) ?_
   cases hf with
   | nil =>
    cases hf' with
    | nil =>
     repeat first | refine vcn (nself _) ?_ | refine vcn (nselfS _) ?_ | refine vcn (nselfB _) ?_
     refine VCode.loop ?_
     refine eqtl_spec n ih args a a' (by omega) (by omega) ha ha' ?_
     refine VUpd.drop 0 ?_ ?_ ?_ ?_
     iterate 3 exact rfl
     refine VUpd.now rfl ⟨rfl, rfl⟩
    | ps h' =>
     cases h'
     repeat first | refine vcn (nself _) ?_ | refine vcn (nselfS _) ?_ | refine vcn (nselfB _) ?_
     refine VCode.loop ?_
     refine eqtl_spec n ih args a a' (by omega) (by omega) ha ha' ?_
     refine VUpd.drop 0 ?_ ?_ ?_ ?_
     iterate 3 exact rfl
     refine VUpd.now rfl ⟨rfl, rfl⟩
   | ps h =>
    cases hf' with
    | nil =>
     cases h
     repeat first | refine vcn (nself _) ?_ | refine vcn (nselfS _) ?_ | refine vcn (nselfB _) ?_
     refine VCode.loop ?_
     refine eqtl_spec n ih args a a' (by omega) (by omega) ha ha' ?_
     refine VUpd.drop 0 ?_ ?_ ?_ ?_
     iterate 3 exact rfl
     refine VUpd.now rfl ⟨rfl, rfl⟩
    | ps h' =>
     rename_i b o cap els b' o' cap' els'
     have e1 := h.len
     have e2 := h'.len
     have he : (!decide (Int.ofNat els.length = Int.ofNat els'.length)) = false := by rw [e1, e2]; exact nself _
     repeat first | refine vcn (nself _) ?_ | refine vcn (nselfS _) ?_ | refine vcn he ?_
     refine VCode.less (tm0 := [(2, .bp 0 0), (3, .bp 1 0), (5, intV 0)]) ⟨rfl, rfl, rfl, trivial⟩ ?_
     refine VCode.iter (fun i : Nat => [(2, .bp 0 0), (3, .bp 1 0), (5, intV i)]) (fun _ => [.box (tyV k m nm a (.ps b o 7 cap els)), .box (tyV k m nm a' (.ps b' o' 7 cap' els'))]) (fun i => fields.length - i) (fun i => i <= fields.length) ?_ 0 (Nat.zero_le _)
     intro i hi
     refine vci (fun hc => ?_) (fun hc => ?_)
     ·have hi' : i < fields.length := e1 ▸ dlt hc
      obtain ⟨x, hx, hxn, hxo, hxt⟩ := h.get hi'
      obtain ⟨y, hy, hyn, hyo, hyt⟩ := h'.get hi'
      have hx1 : nth els i = some (fe x) := by rw [nth_eq]; exact hx
      have hy1 : nth els' i = some (fe y) := by rw [nth_eq]; exact hy
      have hle : tsize fields[i].2.1 <= tsizeL (ftys fields) := tsizeL_mem (List.mem_map_of_mem (List.getElem_mem hi'))
      generalize fields[i] = z at hxn hxo hxt hyn hyo hyt hle
      obtain ⟨xn, xk, xm, xnm, xa, xf, xo⟩ := x
      obtain ⟨yn, yk, ym, ynm, ya, yf, yo⟩ := y
      obtain ⟨zn, zt, zo⟩ := z
      have hxn : zn = xn := hxn
      have hyn : zn = yn := hyn
      have hxo : zo = xo := hxo
      have hyo : zo = yo := hyo
      have hle : tsize zt <= tsizeL (ftys fields) := hle
      subst hxn hyn hxo hyo
      repeat first | refine vnf rfl ?_ | refine exf _ hx1 ?_ | refine exf _ hy1 ?_ | refine vcn (nselfS _) ?_ | refine vcn (nselfB _) ?_
      repeat refine vni (by repeat' (first | exact trivial | exact rfl | refine vnf rfl ?_ | refine vnf rfl ?_ | refine exf _ hx1 ?_ | refine exf _ hy1 ?_ | refine vcn (nselfS _) ?_ | refine vcn (nselfB _) ?_ | refine And.intro ?_ ?_)) ?_
      repeat first | refine vcn (nself _) ?_ | refine vcn (nselfS _) ?_ | refine vcn (nselfB _) ?_
      refine ih zt _ _ (by omega) hxt hyt ?_
      repeat refine vni (by repeat' (first | exact trivial | exact rfl | refine vnf rfl ?_ | refine vnf rfl ?_ | refine exf _ hx1 ?_ | refine exf _ hy1 ?_ | refine vcn (nselfS _) ?_ | refine vcn (nselfB _) ?_ | refine And.intro ?_ ?_)) ?_
      repeat first | refine vcn (nself _) ?_ | refine vcn (nselfS _) ?_ | refine vcn (nselfB _) ?_
      repeat refine vni (by repeat' (first | exact trivial | exact rfl | refine vnf rfl ?_ | refine vnf rfl ?_ | refine exf _ hx1 ?_ | refine exf _ hy1 ?_ | refine vcn (nselfS _) ?_ | refine vcn (nselfB _) ?_ | refine And.intro ?_ ?_)) ?_
      repeat first | refine vcn (nself _) ?_ | refine vcn (nselfS _) ?_ | refine vcn (nselfB _) ?_
      refine ⟨i + 1, hi', by show fields.length - (i + 1) < fields.length - i; omega, .same ⟨rfl, rfl, int_eq (wrap_succ (by omega)), trivial⟩ rfl, rfl, rfl⟩
     ·have hi' : fields.length <= i := e1 ▸ dnlt hc
      refine eqtl_spec n ih args a a' (by omega) (by omega) ha ha' ?_
      refine VUpd.drop 0 ?_ ?_ ?_ ?_
      iterate 3 exact rfl
      refine VUpd.now rfl ⟨rfl, rfl⟩
theorem eqt_spec : ∀ (n : Nat) (t : Ty) (d d' : List D), n < 4294967295 -> tsize t <= n -> TyD t d -> TyD t d' -> ∀ {σ : VS} {K : VCR -> VS -> Prop}, K (.ret (boolV true)) σ -> VCall C intr0 F.modcertref04_EqualTypes [.agg (d.map V.d), .agg (d'.map V.d)] σ K := by
 intro n
 induction n with
 | zero => intro t d d' _ h; have := tsize_pos t; omega
 | succ n ih =>
  intro t d d' hn h hd hd' σ K hk
  have h0 := eqt_spec0 n (fun t d d' h1 h2 h3 => ih t d d' (by omega) h1 h2 h3) t d d' h hn hd hd'
  obtain ⟨k, m, nm, a, f, rfl⟩ := hd.five
  obtain ⟨k', m', nm', a', f', rfl⟩ := hd'.five
  exact VCall.pure h0 rfl rfl hk
theorem dself (a : Nat) : decide (Int.ofNat a = Int.ofNat a) = true := by simp
theorem parseF_size (s : List UInt8) : tsize (parseF s).1 < 4294967295 := by
 have h0 : tsize zeroT < 4294967295 := by simp [zeroT, tsize, tsizeL, tsizeF]
 unfold parseF
 cases hx : lexF s with
 | err off e => exact h0
 | ok ts =>
  dsimp only
  cases hy : typF ⟨0, 0, ts⟩ ts.length 0 with
  | bad off e => exact h0
  | ok t q =>
   dsimp only
   split
   ·exact h0
   ·split
    ·exact h0
    ·obtain ⟨w, hpos⟩ := Rd.wf_of (R := ⟨0, 0, ts⟩) hx
     have hnm := Rd.nm_of (R := ⟨0, 0, ts⟩) hx
     obtain ⟨_, hs, _, hq⟩ := typF_good w hnm ts.length 0 t q (Nat.le_refl _) hpos hy
     have hl := w.len
     show tsize t < 4294967295
     omega
set_option maxRecDepth 100000 in
set_option maxHeartbeats 8000000 in
theorem law_spec0 (s : List UInt8) : VCall C intr0 F.modcertlaw05_ParserTypes [strV s] [] fun r _ => r = .ret (boolV true) := by
 refine VCall.b1 nofz (fun _ => rfl) ?_
 refine VCall.intrinsic (args := []) (x := .bool true) rfl rfl ?_
 refine vci (fun h1 => ?_) (fun h1 => ?_)
 ·repeat (change vcond _ _ _; first | refine vcp (by with_reducible exact h1) ?_)
  refine vci (fun h2 => ?_) (fun h2 => ?_)
  ·repeat (change vcond _ _ _; first | refine vcp (by with_reducible exact h1) ?_ | refine vcp (by with_reducible exact h2) ?_)
   exact VUpd.now rfl rfl
  ·repeat (change vcond _ _ _; first | refine vcp (by with_reducible exact h1) ?_ | refine vcn (by with_reducible exact h2) ?_)
   refine ptype_spec s (fun r hr => ?_)
   obtain ⟨d, hd, rfl⟩ := hr
   obtain ⟨k, m, nm, a, f, rfl⟩ := hd.five
   refine rtype_spec s (fun r hr => ?_)
   obtain ⟨d', hd', rfl⟩ := hr
   obtain ⟨k', m', nm', a', f', rfl⟩ := hd'.five
   refine eqt_spec _ _ _ _ (parseF_size s) (Nat.le_refl _) hd hd' ?_
   repeat refine vcp (dself _) ?_
   refine VUpd.drop 0 ?_ ?_ ?_ ?_
   iterate 3 exact rfl
   exact VUpd.now rfl (by rw [dself]; rfl)
 ·repeat (change vcond _ _ _; first | refine vcn (by with_reducible exact h1) ?_)
  refine ptype_spec s (fun r hr => ?_)
  obtain ⟨d, hd, rfl⟩ := hr
  obtain ⟨k, m, nm, a, f, rfl⟩ := hd.five
  refine rtype_spec s (fun r hr => ?_)
  obtain ⟨d', hd', rfl⟩ := hr
  obtain ⟨k', m', nm', a', f', rfl⟩ := hd'.five
  refine eqt_spec _ _ _ _ (parseF_size s) (Nat.le_refl _) hd hd' ?_
  repeat refine vcp (dself _) ?_
  refine VUpd.drop 0 ?_ ?_ ?_ ?_
  iterate 3 exact rfl
  exact VUpd.now rfl (by rw [dself]; rfl)
end Go.Proofs.YtifncjhjnjldmaaGreatDoor
