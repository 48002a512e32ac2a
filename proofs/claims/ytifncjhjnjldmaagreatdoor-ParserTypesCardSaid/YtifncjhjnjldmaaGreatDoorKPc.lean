/- Contract of the reference's typeOf. -/
import Derived.Test.YtifncjhjnjldmaaGreatDoorKYc
import Derived.Test.YtifncjhjnjldmaaGreatDoorKFb
import Derived.Test.YtifncjhjnjldmaaGreatDoorKPb
namespace Go.Proofs.YtifncjhjnjldmaaGreatDoor set_option linter.unusedSimpArgs false set_option linter.unusedVariables false
open Go.AM Go.VM
def TokK (t : Tok) : Prop := (t.kind = 5 -> t.text.all isWord = true) /\ (t.kind = 6 -> t.text ∈ symsL)
theorem symOf_mem {l : List UInt8} (h : symOf l ≠ []) : symOf l ∈ symsL := by
 cases l with
 | nil => exact absurd rfl h
 | cons c r =>
  rw [symOf_find] at h ⊢
  cases hf : symsL.find? (hasPre (c :: r)) with
  | none => rw [hf] at h; exact absurd rfl h
  | some x => exact List.mem_of_find?_eq_some hf
theorem tokF_kw {l t : List UInt8} {k n : Nat} (h : tokF l = .ok k t n) : (k = 5 -> t.all isWord = true) /\ (k = 6 -> t ∈ symsL) := by
 cases l with
 | nil => cases h
 | cons c r =>
  rw [tokF] at h
  split at h
  ·have hall := spanN_all isWord (c :: r)
   unfold wordTok at h
   split at h
   ·cases h; exact ⟨fun _ => hall, fun h => by omega⟩
   ·split at h
    ·cases h; exact ⟨fun h => by omega, fun h => by omega⟩
    ·split at h
     ·cases h; exact ⟨fun h => by omega, fun h => by omega⟩
     ·cases h
  ·split at h
   ·unfold numTok at h
    split at h
    ·cases h
    ·cases h; exact ⟨fun h => by omega, fun h => by omega⟩
   ·split at h
    ·split at h
     ·cases h; exact ⟨fun h => by omega, fun h => by omega⟩
     ·cases h
    ·split at h
     ·cases h
     ·rename_i hne
      cases h
      exact ⟨fun h => by omega, fun _ => symOf_mem hne⟩
theorem lexGo_kw (s : List UInt8) : ∀ (f at0 : Nat) (l : List Tok), lexGo s f at0 = .ok l -> ∀ t ∈ l, TokK t := by
 intro f
 induction f with
 | zero => intro at0 l h; cases h; simp
 | succ f ih =>
  intro at0 l h
  rw [lexGo] at h
  split at h
  ·cases h
   intro t ht
   simp at ht
   subst ht
   exact ⟨fun h => by simp at h, fun h => by simp at h⟩
  ·cases ht : tokF (s.drop at0) with
   | err e => rw [ht] at h; cases h
   | ok k t n =>
    rw [ht] at h
    dsimp only at h
    cases hr : lexGo s f (at0 + n + skipF false (s.drop (at0 + n))) with
    | err a b => rw [hr] at h; cases h
    | ok l' =>
     rw [hr] at h
     cases h
     intro t' ht'
     rcases List.mem_cons.1 ht' with rfl | ht'
     ·exact tokF_kw ht
     ·exact ih _ l' hr t' ht'
def Rd.Kd (R : Rd) : Prop := ∀ p, p < R.ts.length -> TokK (R.tok p)
theorem Rd.kd_of {s : List UInt8} {R : Rd} (h : lexF s = .ok R.ts) : R.Kd := by
 intro p hp
 have hm := List.mem_of_getElem? (Rd.tok_some hp)
 unfold lexF at h
 split at h
 ·cases h
 ·exact lexGo_kw s _ _ _ h _ hm
theorem isTok_word {t : Tok} (h : TokK t) {s : List UInt8} (hs : s ∉ symsL) : isTok t s = (decide (t.text = s) && decide (t.kind = 5)) := by
 unfold isTok
 by_cases e : t.text = s
 ·by_cases k : t.kind = 6
  ·exact absurd (e ▸ h.2 k) hs
  ·rw [decide_eq_false k, Bool.or_false]
 ·rw [decide_eq_false e]; rfl
theorem isTok_sym {t : Tok} (h : TokK t) {s : List UInt8} (hs : s.all isWord = false) : isTok t s = (decide (t.text = s) && decide (t.kind = 6)) := by
 unfold isTok
 by_cases e : t.text = s
 ·by_cases k : t.kind = 5
  ·have := h.1 k
   rw [e, hs] at this
   cases this
  ·rw [decide_eq_false k, Bool.false_or]
 ·rw [decide_eq_false e]; rfl
theorem kw_of {t : Tok} (h : TokK t) {s : List UInt8} (ht : isTok t s = true) (hs : s ∉ symsL) : t.kind = 5 /\ t.text = s := by
 rw [isTok_word h hs, Bool.and_eq_true, decide_eq_true_eq, decide_eq_true_eq] at ht
 exact ⟨ht.2, ht.1⟩
theorem sym_of {t : Tok} (h : TokK t) {s : List UInt8} (ht : isTok t s = true) (hs : s.all isWord = false) : t.kind = 6 /\ t.text = s := by
 rw [isTok_sym h hs, Bool.and_eq_true, decide_eq_true_eq, decide_eq_true_eq] at ht
 exact ⟨ht.2, ht.1⟩
theorem not_of {t : Tok} {s : List UInt8} {k : Nat} (ht : isTok t s = false) (hk : t.kind = k) (h : k = 5 ∨ k = 6) : t.text ≠ s := by
 intro e
 rw [isTok, e] at ht
 rcases h with rfl | rfl <;> rw [hk] at ht <;> simp at ht
def rtyfz : Nat -> Bool := fun t => Nat.beq t 16 || Nat.beq t 43 || Nat.beq t 83
set_option maxRecDepth 100000 in
set_option maxHeartbeats 16000000 in
theorem rtyp_err (R : Rd) (w : R.Wf) (x : RS) (hx : x.e ≠ 0) (hp : x.p < R.ts.length) {σ : VS} {K : VCR -> VS -> Prop} (hk : ∀ k m n a f, K (.ret (.tup [.agg [.d k, .d m, .d n, .d a, .d f], x.v R])) σ) : VCall C intr0 F.modcertref05_typeOf [x.v R] σ K := by
 refine VCall.closed (P := fun r => ∃ k m n a f, r = .ret (.tup [.agg [.d k, .d m, .d n, .d a, .d f], x.v R])) ?_ rfl (fun r ⟨k, m, n, a, f, e⟩ => by rw [e]; exact hk k m n a f)
 refine VCall.b1 rtyfz (fun _ => rfl) ?_
 intro b
 refine VCode.loop ?_
 refine vnf rfl (exf _ rfl ?_)
 repeat refine vni (by repeat' (first | exact trivial | exact rfl | refine vnf rfl ?_ | refine exf _ rfl ?_ | refine And.intro ?_ ?_)) ?_
 refine ris_spec R x _ hp ?_
 rw [RS.is_err hx]
 repeat refine vni (by repeat' (first | exact trivial | exact rfl | refine vnf rfl ?_ | refine exf _ rfl ?_ | refine And.intro ?_ ?_)) ?_
 refine VCode.loop ?_
 refine vnf rfl (exf _ rfl ?_)
 repeat refine vni (by repeat' (first | exact trivial | exact rfl | refine vnf rfl ?_ | refine exf _ rfl ?_ | refine And.intro ?_ ?_)) ?_
 refine ris_spec R x _ hp ?_
 rw [RS.is_err hx]
 repeat refine vni (by repeat' (first | exact trivial | exact rfl | refine vnf rfl ?_ | refine exf _ rfl ?_ | refine And.intro ?_ ?_)) ?_
 refine VCode.loop ?_
 refine vnf rfl (exf _ rfl ?_)
 repeat refine vni (by repeat' (first | exact trivial | exact rfl | refine vnf rfl ?_ | refine exf _ rfl ?_ | refine And.intro ?_ ?_)) ?_
 refine ris_spec R x _ hp ?_
 rw [RS.is_err hx]
 repeat refine vni (by repeat' (first | exact trivial | exact rfl | refine vnf rfl ?_ | refine exf _ rfl ?_ | refine And.intro ?_ ?_)) ?_
 refine VCode.loop ?_
 refine vnf rfl (exf _ rfl ?_)
 repeat refine vni (by repeat' (first | exact trivial | exact rfl | refine vnf rfl ?_ | refine exf _ rfl ?_ | refine And.intro ?_ ?_)) ?_
 refine ris_spec R x _ hp ?_
 rw [RS.is_err hx]
 repeat refine vni (by repeat' (first | exact trivial | exact rfl | refine vnf rfl ?_ | refine exf _ rfl ?_ | refine And.intro ?_ ?_)) ?_
 refine VCode.loop ?_
 refine vnf rfl (exf _ rfl ?_)
 repeat refine vni (by repeat' (first | exact trivial | exact rfl | refine vnf rfl ?_ | refine exf _ rfl ?_ | refine And.intro ?_ ?_)) ?_
 refine ris_spec R x _ hp ?_
 rw [RS.is_err hx]
 repeat refine vni (by repeat' (first | exact trivial | exact rfl | refine vnf rfl ?_ | refine exf _ rfl ?_ | refine And.intro ?_ ?_)) ?_
 refine VCode.loop ?_
 refine ris_spec R x _ hp ?_
 rw [RS.is_err hx]
 refine ris_spec R x _ hp ?_
 rw [RS.is_err hx]
 refine ris_spec R x _ hp ?_
 rw [RS.is_err hx]
 refine ris_spec R x _ hp ?_
 rw [RS.is_err hx]
 refine risKind_spec R x 1 hp ?_
 rw [RS.isKind_err hx]
 refine rword_spec R w x 2 hp ?_
 rw [RS.word_err hx, RS.wordT, RS.isKind_err hx, if_neg (by decide)]
 refine rargs_err R x hx hp ?_
 repeat refine vni (by repeat' (first | exact trivial | exact rfl | refine vnf rfl ?_ | refine And.intro ?_ ?_)) ?_
 refine VUpd.drop 0 ?_ ?_ ?_ ?_
 iterate 3 exact rfl
 refine VUpd.now rfl ⟨rfl, rfl, _, _, _, _, _, rfl⟩
theorem rfields_spec (R : Rd) (w : R.Wf) (ty : Nat -> PR Ty) (p : Nat) (hp : p < R.ts.length) (ht : RTyp ty R p) (sep fin : List UInt8) (hsf : sep ≠ fin) (opt : Bool) {σ : VS} {K : VCR -> VS -> Prop}
  (h1 : ∀ l d q, fieldsF ty R sep fin opt p = .ok l q -> FlsD l d -> K (.ret (.tup [.d d, (RS.at q).v R])) σ) (h2 : ∀ off e q d, fieldsF ty R sep fin opt p = .bad off e -> e ≠ 0 -> q < R.ts.length -> K (.ret (.tup [.d d, (RS.mk q off e).v R])) σ) : VCall C intr0 F.modcertref05_fields [(RS.at p).v R, strV sep, strV fin, boolV opt] σ K := by
 refine VCall.closed (rfields_spec0 R w ty p hp ht sep fin hsf opt) rfl (fun r h => ?_)
 unfold rflP at h
 split at h
 ·rename_i l q e
  obtain ⟨d, hd, rfl⟩ := h
  exact h1 l d q e hd
 ·rename_i off e' e
  obtain ⟨hne, d, q, hq, rfl⟩ := h
  exact h2 off e' q d e hne hq
theorem typB_bad {ty : Nat -> PR Ty} {R : Rd} {t : Tok} {q : Nat} (hk : TokK t) (h1 : t.kind ≠ 1) (h2 : t.kind ≠ 2)
  (n1 : isTok t [97, 110, 121] = false) (n2 : isTok t [110, 111, 110, 101] = false) (n3 : isTok t [105, 110, 116] = false) (n4 : isTok t [98, 111, 111, 108] = false) (n5 : isTok t [116, 101, 120, 116] = false)
  (n6 : isTok t [108, 105, 115, 116] = false) (n7 : isTok t [123] = false) (n8 : isTok t [60] = false) (n9 : isTok t [102, 110] = false) : typB ty R t.kind t.text t.off q = .bad t.off 3 := by
 unfold typB
 by_cases h5 : t.kind = 5
 ·have g := fun s (h : isTok t s = false) => not_of h h5 (.inl rfl)
  rw [if_pos h5, basicK, if_neg (g _ n3), if_neg (g _ n4), if_neg (g _ n5), if_neg (g _ n1), if_neg (g _ n2)]
  dsimp only
  rw [if_neg (g _ n6), if_neg (g _ n9)]
 ·rw [if_neg h5]
  by_cases h6 : t.kind = 6
  ·have g := fun s (h : isTok t s = false) => not_of h h6 (.inr rfl)
   rw [if_pos h6, if_neg (g _ n7), if_neg (g _ n8)]
  ·rw [if_neg h6, if_neg h2, if_neg h1]
set_option maxRecDepth 100000 in
set_option maxHeartbeats 16000000 in
theorem rtyp_spec0 (R : Rd) (w : R.Wf) (hkd : R.Kd) (ty : Nat -> PR Ty) (p : Nat) (hp : p < R.ts.length) (ht : RTyp ty R (p + 1)) (x : PR Ty) (he : typB ty R (R.tok p).kind (R.tok p).text (R.tok p).off (p + 1) = x) :
  VCall C intr0 F.modcertref05_typeOf [(RS.at p).v R] [] fun r σ' => σ' = [] /\ closedCR r = true /\ rtyP R x r := by
 have hlen := w.len
 refine VCall.b1 rtyfz (fun _ => rfl) ?_
 intro b
 refine VCode.loop ?_
 refine vnf rfl (exf _ rfl ?_)
 repeat refine vni (by repeat' (first | exact trivial | exact rfl | refine vnf rfl ?_ | refine exf _ rfl ?_ | refine And.intro ?_ ?_)) ?_
 refine ris_spec R (RS.at p) _ hp ?_
 rw [RS.is_at]
 repeat refine vni (by repeat' (first | exact trivial | exact rfl | refine vnf rfl ?_ | refine exf _ rfl ?_ | refine And.intro ?_ ?_)) ?_
 refine vci (fun h1 => ?_) (fun h1 => ?_)
 ·obtain ⟨e1, e2⟩ := kw_of (hkd p hp) h1 (by decide)
  rw [e1, e2] at he
  refine rnext_spec R (RS.at p) (by show p < 4294967296; omega) ?_
  refine VUpd.drop 0 ?_ ?_ ?_ ?_
  iterate 3 exact rfl
  refine VUpd.now rfl ⟨rfl, rfl, by rw [<- he]; exact ⟨_, .mk .nil .nil, rfl⟩⟩
 refine VCode.loop ?_
 refine vnf rfl (exf _ rfl ?_)
 repeat refine vni (by repeat' (first | exact trivial | exact rfl | refine vnf rfl ?_ | refine exf _ rfl ?_ | refine And.intro ?_ ?_)) ?_
 refine ris_spec R (RS.at p) _ hp ?_
 rw [RS.is_at]
 repeat refine vni (by repeat' (first | exact trivial | exact rfl | refine vnf rfl ?_ | refine exf _ rfl ?_ | refine And.intro ?_ ?_)) ?_
 refine vci (fun h2 => ?_) (fun h2 => ?_)
 ·obtain ⟨e1, e2⟩ := kw_of (hkd p hp) h2 (by decide)
  rw [e1, e2] at he
  refine rnext_spec R (RS.at p) (by show p < 4294967296; omega) ?_
  refine VUpd.drop 0 ?_ ?_ ?_ ?_
  iterate 3 exact rfl
  refine VUpd.now rfl ⟨rfl, rfl, by rw [<- he]; exact ⟨_, .mk .nil .nil, rfl⟩⟩
 refine VCode.loop ?_
 refine vnf rfl (exf _ rfl ?_)
 repeat refine vni (by repeat' (first | exact trivial | exact rfl | refine vnf rfl ?_ | refine exf _ rfl ?_ | refine And.intro ?_ ?_)) ?_
 refine ris_spec R (RS.at p) _ hp ?_
 rw [RS.is_at]
 repeat refine vni (by repeat' (first | exact trivial | exact rfl | refine vnf rfl ?_ | refine exf _ rfl ?_ | refine And.intro ?_ ?_)) ?_
 refine vci (fun h3 => ?_) (fun h3 => ?_)
 ·obtain ⟨e1, e2⟩ := kw_of (hkd p hp) h3 (by decide)
  rw [e1, e2] at he
  refine rnext_spec R (RS.at p) (by show p < 4294967296; omega) ?_
  refine VUpd.drop 0 ?_ ?_ ?_ ?_
  iterate 3 exact rfl
  refine VUpd.now rfl ⟨rfl, rfl, by rw [<- he]; exact ⟨_, .mk .nil .nil, rfl⟩⟩
 refine VCode.loop ?_
 refine vnf rfl (exf _ rfl ?_)
 repeat refine vni (by repeat' (first | exact trivial | exact rfl | refine vnf rfl ?_ | refine exf _ rfl ?_ | refine And.intro ?_ ?_)) ?_
 refine ris_spec R (RS.at p) _ hp ?_
 rw [RS.is_at]
 repeat refine vni (by repeat' (first | exact trivial | exact rfl | refine vnf rfl ?_ | refine exf _ rfl ?_ | refine And.intro ?_ ?_)) ?_
 refine vci (fun h4 => ?_) (fun h4 => ?_)
 ·obtain ⟨e1, e2⟩ := kw_of (hkd p hp) h4 (by decide)
  rw [e1, e2] at he
  refine rnext_spec R (RS.at p) (by show p < 4294967296; omega) ?_
  refine VUpd.drop 0 ?_ ?_ ?_ ?_
  iterate 3 exact rfl
  refine VUpd.now rfl ⟨rfl, rfl, by rw [<- he]; exact ⟨_, .mk .nil .nil, rfl⟩⟩
 refine VCode.loop ?_
 refine vnf rfl (exf _ rfl ?_)
 repeat refine vni (by repeat' (first | exact trivial | exact rfl | refine vnf rfl ?_ | refine exf _ rfl ?_ | refine And.intro ?_ ?_)) ?_
 refine ris_spec R (RS.at p) _ hp ?_
 rw [RS.is_at]
 repeat refine vni (by repeat' (first | exact trivial | exact rfl | refine vnf rfl ?_ | refine exf _ rfl ?_ | refine And.intro ?_ ?_)) ?_
 refine vci (fun h5 => ?_) (fun h5 => ?_)
 ·obtain ⟨e1, e2⟩ := kw_of (hkd p hp) h5 (by decide)
  rw [e1, e2] at he
  refine rnext_spec R (RS.at p) (by show p < 4294967296; omega) ?_
  refine VUpd.drop 0 ?_ ?_ ?_ ?_
  iterate 3 exact rfl
  refine VUpd.now rfl ⟨rfl, rfl, by rw [<- he]; exact ⟨_, .mk .nil .nil, rfl⟩⟩
 refine VCode.loop ?_
 refine ris_spec R (RS.at p) _ hp ?_
 rw [RS.is_at]
 refine vci (fun h6 => ?_) (fun h6 => ?_)
 ·have hp1 := w.step hp h6
  obtain ⟨e1, e2⟩ := kw_of (hkd p hp) h6 (by decide)
  rw [e1, e2] at he
  have he : (bracketF ty R (p + 1)).map (fun t => Ty.mk 5 [] [] [t] []) = x := he
  refine rnext_spec R (RS.at p) (by show p < 4294967296; omega) ?_
  refine rbracket_spec R w ty (p + 1) hp1 ht (fun t d q e3 hd => ?_) (fun off e q k m n a f e3 hne hq => ?_)
  ·obtain ⟨k, m, n, a, f, rfl⟩ := hd.five
   rw [e3] at he
   intro b1
   repeat refine vni (by repeat' (first | exact trivial | exact rfl | refine vnf rfl ?_ | refine And.intro ?_ ?_)) ?_
   refine VUpd.drop 0 ?_ ?_ ?_ ?_
   iterate 3 exact rfl
   refine VUpd.now rfl ⟨rfl, rfl, by rw [<- he]; exact ⟨_, .mk (.ps (.cons hd .nil) (List.cons_ne_nil _ _)) .nil, rfl⟩⟩
  ·rw [e3] at he
   intro b1
   repeat refine vni (by repeat' (first | exact trivial | exact rfl | refine vnf rfl ?_ | refine And.intro ?_ ?_)) ?_
   refine VUpd.drop 0 ?_ ?_ ?_ ?_
   iterate 3 exact rfl
   refine VUpd.now rfl ⟨rfl, rfl, by rw [<- he]; exact ⟨hne, _, _, _, _, _, q, hq, rfl⟩⟩
 refine ris_spec R (RS.at p) _ hp ?_
 rw [RS.is_at]
 refine vci (fun h7 => ?_) (fun h7 => ?_)
 ·have hp1 := w.step hp h7
  obtain ⟨e1, e2⟩ := sym_of (hkd p hp) h7 (by decide)
  rw [e1, e2] at he
  have he : (fieldsF ty R [44] [125] false (p + 1)).map (fun l => Ty.mk 6 [] [] [] l) = x := he
  refine rnext_spec R (RS.at p) (by show p < 4294967296; omega) ?_
  refine rfields_spec R w ty (p + 1) hp1 ht [44] [125] (by decide) false (fun l d q e3 hd => ?_) (fun off e q d e3 hne hq => ?_)
  ·rw [e3] at he
   repeat refine vni (by repeat' (first | exact trivial | exact rfl | refine vnf rfl ?_ | refine And.intro ?_ ?_)) ?_
   refine VUpd.drop 0 ?_ ?_ ?_ ?_
   iterate 3 exact rfl
   refine VUpd.now rfl ⟨rfl, rfl, by rw [<- he]; exact ⟨_, .mk .nil hd, rfl⟩⟩
  ·rw [e3] at he
   repeat refine vni (by repeat' (first | exact trivial | exact rfl | refine vnf rfl ?_ | refine And.intro ?_ ?_)) ?_
   refine VUpd.drop 0 ?_ ?_ ?_ ?_
   iterate 3 exact rfl
   refine VUpd.now rfl ⟨rfl, rfl, by rw [<- he]; exact ⟨hne, _, _, _, _, _, q, hq, rfl⟩⟩
 refine ris_spec R (RS.at p) _ hp ?_
 rw [RS.is_at]
 refine vci (fun h8 => ?_) (fun h8 => ?_)
 ·have hp1 := w.step hp h8
  obtain ⟨e1, e2⟩ := sym_of (hkd p hp) h8 (by decide)
  rw [e1, e2] at he
  have he : (fieldsF ty R [124] [62] false (p + 1)).map (fun l => Ty.mk 7 [] [] [] l) = x := he
  refine rnext_spec R (RS.at p) (by show p < 4294967296; omega) ?_
  refine rfields_spec R w ty (p + 1) hp1 ht [124] [62] (by decide) false (fun l d q e3 hd => ?_) (fun off e q d e3 hne hq => ?_)
  ·rw [e3] at he
   repeat refine vni (by repeat' (first | exact trivial | exact rfl | refine vnf rfl ?_ | refine And.intro ?_ ?_)) ?_
   refine VUpd.drop 0 ?_ ?_ ?_ ?_
   iterate 3 exact rfl
   refine VUpd.now rfl ⟨rfl, rfl, by rw [<- he]; exact ⟨_, .mk .nil hd, rfl⟩⟩
  ·rw [e3] at he
   repeat refine vni (by repeat' (first | exact trivial | exact rfl | refine vnf rfl ?_ | refine And.intro ?_ ?_)) ?_
   refine VUpd.drop 0 ?_ ?_ ?_ ?_
   iterate 3 exact rfl
   refine VUpd.now rfl ⟨rfl, rfl, by rw [<- he]; exact ⟨hne, _, _, _, _, _, q, hq, rfl⟩⟩
 refine ris_spec R (RS.at p) _ hp ?_
 rw [RS.is_at]
 refine vci (fun h9 => ?_) (fun h9 => ?_)
 ·have hp1 := w.step hp h9
  obtain ⟨e1, e2⟩ := kw_of (hkd p hp) h9 (by decide)
  rw [e1, e2] at he
  have he : (match needF R [[40]] (p + 1) with
    | .bad o e => .bad o e
    | .ok _ q1 => match fieldsF ty R [44] [41] true q1 with
     | .bad o e => .bad o e
     | .ok l q2 => (ty q2).map fun t => Ty.mk 8 [] [] [t] l) = x := he
  refine rnext_spec R (RS.at p) (by show p < 4294967296; omega) ?_
  refine rexpect_spec R w (RS.at (p + 1)) [40] hp1 ?_
  cases h40 : isTok (R.tok (p + 1)) [40] with
  | false =>
   rw [needF, h40, if_neg (by decide)] at he
   dsimp only at he
   rw [RS.expect_no h40]
   refine rfields_err R w ty (p + 1) ht _ (Nat.succ_ne_zero _) hp1 [44] [41] true ?_
   refine ht.err _ (Nat.succ_ne_zero _) hp1 _ _ (fun k m n a f => ?_)
   intro b1
   repeat refine vni (by repeat' (first | exact trivial | exact rfl | refine vnf rfl ?_ | refine And.intro ?_ ?_)) ?_
   refine VUpd.drop 0 ?_ ?_ ?_ ?_
   iterate 3 exact rfl
   refine VUpd.now rfl ⟨rfl, rfl, by rw [<- he]; exact ⟨by decide, _, _, _, _, _, p + 1, hp1, rfl⟩⟩
  | true =>
   have hp2 := w.step hp1 h40
   rw [needF, h40, if_pos rfl, needF] at he
   dsimp only at he
   rw [RS.expect_yes h40]
   refine rfields_spec R w ty (p + 1 + 1) hp2 (ht.up (by omega)) [44] [41] (by decide) true (fun l d q e3 hd => ?_) (fun off e q d e3 hne hq => ?_)
   ·obtain ⟨g1, g2⟩ := fieldsF_lt w (fun p' t q h1 => ht.lt p' t q (by omega)) hp2 e3
    rw [e3] at he
    dsimp only at he
    refine ht.call q (by omega) g2 _ _ (fun t d2 q2 e4 hd2 => ?_) (fun off e q2 k m n a f e4 hne hq2 => ?_)
    ·obtain ⟨k, m, n, a, f, rfl⟩ := hd2.five
     rw [e4] at he
     intro b1
     repeat refine vni (by repeat' (first | exact trivial | exact rfl | refine vnf rfl ?_ | refine And.intro ?_ ?_)) ?_
     refine VUpd.drop 0 ?_ ?_ ?_ ?_
     iterate 3 exact rfl
     refine VUpd.now rfl ⟨rfl, rfl, by rw [<- he]; exact ⟨_, .mk (.ps (.cons hd2 .nil) (List.cons_ne_nil _ _)) hd, rfl⟩⟩
    ·rw [e4] at he
     intro b1
     repeat refine vni (by repeat' (first | exact trivial | exact rfl | refine vnf rfl ?_ | refine And.intro ?_ ?_)) ?_
     refine VUpd.drop 0 ?_ ?_ ?_ ?_
     iterate 3 exact rfl
     refine VUpd.now rfl ⟨rfl, rfl, by rw [<- he]; exact ⟨hne, _, _, _, _, _, q2, hq2, rfl⟩⟩
   ·rw [e3] at he
    dsimp only at he
    refine ht.err _ hne hq _ _ (fun k m n a f => ?_)
    intro b1
    repeat refine vni (by repeat' (first | exact trivial | exact rfl | refine vnf rfl ?_ | refine And.intro ?_ ?_)) ?_
    refine VUpd.drop 0 ?_ ?_ ?_ ?_
    iterate 3 exact rfl
    refine VUpd.now rfl ⟨rfl, rfl, by rw [<- he]; exact ⟨hne, _, _, _, _, _, q, hq, rfl⟩⟩
 refine risKind_spec R (RS.at p) 1 hp ?_
 rw [RS.isKind_at]
 refine vci (fun hk1 => ?_) (fun hk1 => ?_)
 ·have hk1' : (R.tok p).kind = 1 := of_decide_eq_true hk1
  have hp1 := w.go p _ (Rd.tok_some hp) (by omega)
  rw [hk1'] at he
  have he : (match needF R [[58, 58]] (p + 1) with
    | .bad o e => .bad o e
    | .ok _ q1 => if (R.tok q1).kind ≠ 2 then .bad (R.tok q1).off 3 else (argsF ty R (q1 + 1)).map fun l => Ty.mk 10 (R.tok p).text (R.tok q1).text l []) = x := he
  refine rword_spec R w (RS.at p) 1 hp ?_
  rw [RS.word_yes hk1', RS.wordT, RS.isKind_at, hk1, if_pos rfl]
  refine rexpect_spec R w (RS.at (p + 1)) [58, 58] hp1 ?_
  cases h58 : isTok (R.tok (p + 1)) [58, 58] with
  | false =>
   rw [needF, h58, if_neg (by decide)] at he
   dsimp only at he
   rw [RS.expect_no h58]
   refine rword_spec R w _ 2 hp1 ?_
   rw [RS.word_err (Nat.succ_ne_zero _), RS.wordT, RS.isKind_err (Nat.succ_ne_zero _), if_neg (by decide)]
   refine rargs_err R _ (Nat.succ_ne_zero _) hp1 ?_
   repeat refine vni (by repeat' (first | exact trivial | exact rfl | refine vnf rfl ?_ | refine And.intro ?_ ?_)) ?_
   refine VUpd.drop 0 ?_ ?_ ?_ ?_
   iterate 3 exact rfl
   refine VUpd.now rfl ⟨rfl, rfl, by rw [<- he]; exact ⟨by decide, _, _, _, _, _, p + 1, hp1, rfl⟩⟩
  | true =>
   have hp2 := w.step hp1 h58
   rw [needF, h58, if_pos rfl, needF] at he
   dsimp only at he
   rw [RS.expect_yes h58]
   refine rword_spec R w (RS.at (p + 1 + 1)) 2 hp2 ?_
   by_cases hk2 : (R.tok (p + 1 + 1)).kind = 2
   ·have hp3 := w.go _ _ (Rd.tok_some hp2) (by omega)
    rw [if_neg (fun h => h hk2)] at he
    rw [RS.word_yes hk2, RS.wordT, RS.isKind_at, decide_eq_true hk2, if_pos rfl]
    refine rargs_spec R w ty (p+1+1+1) hp3 (ht.up (by omega)) (fun l d q e3 hd => ?_) (fun off e q d e3 hne hq => ?_)
    ·rw [e3] at he
     repeat refine vni (by repeat' (first | exact trivial | exact rfl | refine vnf rfl ?_ | refine And.intro ?_ ?_)) ?_
     refine VUpd.drop 0 ?_ ?_ ?_ ?_
     iterate 3 exact rfl
     refine VUpd.now rfl ⟨rfl, rfl, by rw [<- he]; exact ⟨_, .mk hd .nil, rfl⟩⟩
    ·rw [e3] at he
     repeat refine vni (by repeat' (first | exact trivial | exact rfl | refine vnf rfl ?_ | refine And.intro ?_ ?_)) ?_
     refine VUpd.drop 0 ?_ ?_ ?_ ?_
     iterate 3 exact rfl
     refine VUpd.now rfl ⟨rfl, rfl, by rw [<- he]; exact ⟨hne, _, _, _, _, _, q, hq, rfl⟩⟩
   ·rw [if_pos hk2] at he
    rw [RS.word_no hk2, RS.wordT, RS.isKind_at, decide_eq_false hk2, if_neg (by decide)]
    refine rargs_err R _ (Nat.succ_ne_zero _) hp2 ?_
    repeat refine vni (by repeat' (first | exact trivial | exact rfl | refine vnf rfl ?_ | refine And.intro ?_ ?_)) ?_
    refine VUpd.drop 0 ?_ ?_ ?_ ?_
    iterate 3 exact rfl
    refine VUpd.now rfl ⟨rfl, rfl, by rw [<- he]; exact ⟨by decide, _, _, _, _, _, p + 1 + 1, hp2, rfl⟩⟩
 ·have hk1' : (R.tok p).kind ≠ 1 := of_decide_eq_false hk1
  refine rword_spec R w (RS.at p) 2 hp ?_
  by_cases hk2 : (R.tok p).kind = 2
  ·have hp1 := w.go _ _ (Rd.tok_some hp) (by omega)
   rw [hk2] at he
   have he : (argsF ty R (p + 1)).map (fun l => Ty.mk 10 [] (R.tok p).text l []) = x := he
   rw [RS.word_yes hk2, RS.wordT, RS.isKind_at, decide_eq_true hk2, if_pos rfl]
   refine rargs_spec R w ty (p+1) hp1 (ht.up (by omega)) (fun l d q e3 hd => ?_) (fun off e q d e3 hne hq => ?_)
   ·rw [e3] at he
    repeat refine vni (by repeat' (first | exact trivial | exact rfl | refine vnf rfl ?_ | refine And.intro ?_ ?_)) ?_
    refine VUpd.drop 0 ?_ ?_ ?_ ?_
    iterate 3 exact rfl
    refine VUpd.now rfl ⟨rfl, rfl, by rw [<- he]; exact ⟨_, .mk hd .nil, rfl⟩⟩
   ·rw [e3] at he
    repeat refine vni (by repeat' (first | exact trivial | exact rfl | refine vnf rfl ?_ | refine And.intro ?_ ?_)) ?_
    refine VUpd.drop 0 ?_ ?_ ?_ ?_
    iterate 3 exact rfl
    refine VUpd.now rfl ⟨rfl, rfl, by rw [<- he]; exact ⟨hne, _, _, _, _, _, q, hq, rfl⟩⟩
  ·rw [typB_bad (hkd p hp) hk1' hk2 h1 h2 h3 h4 h5 h6 h7 h8 h9] at he
   rw [RS.word_no hk2, RS.wordT, RS.isKind_at, decide_eq_false hk2, if_neg (by decide)]
   refine rargs_err R _ (Nat.succ_ne_zero _) hp ?_
   repeat refine vni (by repeat' (first | exact trivial | exact rfl | refine vnf rfl ?_ | refine And.intro ?_ ?_)) ?_
   refine VUpd.drop 0 ?_ ?_ ?_ ?_
   iterate 3 exact rfl
   refine VUpd.now rfl ⟨rfl, rfl, by rw [<- he]; exact ⟨by decide, _, _, _, _, _, p, hp, rfl⟩⟩
end Go.Proofs.YtifncjhjnjldmaaGreatDoor
