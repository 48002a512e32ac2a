/- The lifted machine: calls, frames, loops, and that it is sound. -/
import Derived.Test.YthfehkcfhiilfaaGreatDoorKVmC
namespace Go.VM set_option linter.unusedSimpArgs false set_option linter.unusedVariables false
open Go.AM
section
variable {C : Ctx} {intr : FuncId -> List Value -> Option Value} {Φ Φ' : Fz} {ρ ρ' : Nat -> Nat} {σ : VS} {st : St} {m m' : Nat}
def eraseM (ρ : Nat -> Nat) : VMode -> AM.Mode
 | .returning => .returning
 | .panicking v => .panicking (erase ρ v)
def MOk (Φ : Fz) (m : Nat) : VMode -> Prop
 | .returning => True
 | .panicking v => VOk Φ m v
theorem Stp.mode (h : Stp Φ ρ m Φ' ρ' m') {x : VMode} (hx : MOk Φ m x) : eraseM ρ' x = eraseM ρ x /\ MOk Φ' m' x := by
 cases x with
 | returning => exact ⟨rfl, trivial⟩
 | panicking v => exact ⟨by simp only [eraseM, h.erase hx], h.ok hx⟩
theorem vunwind_sound : ∀ (l : List VDef) {md : VMode} {Φ : Fz} {ρ : Nat -> Nat} {σ : VS} {st : St} {k : VMode -> VS -> Prop}, vunwind C intr l md σ k -> Real Φ ρ σ st -> (∀ d ∈ l, DfOk Φ σ.length d) -> MOk Φ σ.length md ->
  ∃ n md' Φ' ρ' σ' st', unwindL C (recN C intr n) (l.map (eraseDf ρ)) (eraseM ρ md) st = some (eraseM ρ' md', st') /\ Stp Φ ρ σ.length Φ' ρ' σ'.length /\ Real Φ' ρ' σ' st' /\ MOk Φ' σ'.length md' /\ k md' σ' := by
 intro l
 induction l with
 | nil => intro md Φ ρ σ st k hk h _ hm; exact ⟨0, md, Φ, ρ, σ, st, rfl, .refl _ _ _, h, hm, hk⟩
 | cons d l ih =>
  intro md Φ ρ σ st k hk h hd hm
  obtain ⟨t, args⟩ := d
  have hd0 := hd _ (List.mem_cons_self ..)
  have hdl : ∀ d ∈ l, DfOk Φ σ.length d := fun d h => hd d (List.mem_cons_of_mem _ h)
  cases t with
  | coll r =>
   unfold vunwind at hk
   split at hk
   ·rename_i hr
    rw [nth_eq] at hr
    obtain ⟨_, hk⟩ := vset_elim _ _ _ _ hk
    have hg := (h.obj r _ hr rfl).1
    have hput := h.put (o' := .defl true) (a := .defl true) hr rfl rfl rfl (fun _ _ _ _ e => by cases e) (by show (st.put (ρ r) (.defl true)).get (ρ r) = _; rw [St.get_put, if_pos rfl])
    obtain ⟨n, md', Φ', ρ', σ', st', e1, e2, e3, e4, e5⟩ := ih hk hput (by rw [set_len]; exact hdl) (by rw [set_len]; exact hm)
    rw [set_len] at e2
    refine ⟨n, md', Φ', ρ', σ', st', ?_, e2, e3, e4, e5⟩
    have hg' : st.get (ρ r) = some (.defl false) := hg
    simp only [List.map_cons, eraseDf, unwindL, hg']
    exact e1
   ·exact hk.elim
  | fn f capt =>
   unfold vunwind at hk
   split at hk
   ·rename_i fi hfi
    obtain ⟨h1, h2⟩ := hd0
    have h1 : VsOk Φ σ.length capt := h1
    have hps : PsOk Φ σ.length (psOf md) := by
     cases md with
     | returning => trivial
     | panicking v => exact hm
    obtain ⟨n, r, ps', st', Φ', ρ', σ', e1, e2, e3, e4, e5, e6⟩ := hk.go Φ ρ st h (h2.append h1) hps
    cases r with
    | pan v => exact e6.elim
    | ret v =>
     have hm' : MOk Φ' σ'.length (modeAfter md ps') := by
      cases md with
      | returning => trivial
      | panicking v =>
       cases ps' with
       | recd => trivial
       | none => exact e2.ok hm
       | pend w => exact e2.ok hm
     have e6 : vunwind C intr l (modeAfter md ps') σ' k := e6
     obtain ⟨n', md', Φ2, ρ2, σ2, st2, g1, g2, g3, g4, g5⟩ := ih e6 e3 (fun d hd => (e2.df1 (hdl d hd)).2) hm'
     refine ⟨max n n', md', Φ2, ρ2, σ2, st2, ?_, e2.trans g2, g3, g4, g5⟩
     have hl : l.map (eraseDf ρ') = l.map (eraseDf ρ) := List.map_congr_left fun d hd => (e2.df1 (hdl d hd)).1
     rw [hl] at g1
     have e1' := (recN_le (C := C) (intr := intr) (Nat.le_max_left n n')).call _ _ _ _ _ _ e1
     have g1' := unwindL_mono (recN_le (C := C) (intr := intr) (Nat.le_max_right n n')) _ g1
     rw [eraseL_append] at e1'
     unfold unwindL
     simp only [List.map_cons, eraseDf, hfi]
     cases md with
     | returning =>
      simp only [psOf, erasePs] at e1'
      simp only [modeAfter, eraseM] at g1' ⊢
      rw [e1']
      simp only [eraseCR]
      exact g1'
     | panicking w =>
      simp only [psOf, erasePs] at e1'
      simp only [eraseM]
      rw [e1']
      simp only [eraseCR]
      cases ps' with
      | recd => exact g1'
      | none =>
       simp only [modeAfter, eraseM] at g1'
       rw [e2.erase hm] at g1'
       exact g1'
      | pend u =>
       simp only [modeAfter, eraseM] at g1'
       rw [e2.erase hm] at g1'
       exact g1'
   ·exact hk.elim
theorem vresVals_sound (h : Real Φ ρ σ st) {tm : Tm} {t : Tr Value} (ht : TmRel Φ ρ σ.length tm t) : ∀ (l : List ResultVar) {k : List V -> Prop}, vresVals C tm σ l k -> ∃ vs, k vs /\ VsOk Φ σ.length vs /\ resVals C t st l = some (eraseL ρ vs) := by
 intro l
 induction l with
 | nil => intro k hk; exact ⟨[], hk, fun _ h => by simp at h, rfl⟩
 | cons r l ih =>
  intro k hk
  cases r with
  | tmp i =>
   obtain ⟨v, h1, h2⟩ := vwe hk
   obtain ⟨vs, h3, h4, h5⟩ := ih h2
   obtain ⟨a, b⟩ := ht _ _ h1
   refine ⟨v :: vs, h3, fun x hx => ?_, by simp only [resVals, resVal, a, h5, eraseL]⟩
   rcases List.mem_cons.1 hx with rfl | hx
   ·exact b
   ·exact h4 x hx
  | cell i ty =>
   obtain ⟨p, h1, h2⟩ := vwe hk
   obtain ⟨a, b⟩ := ht _ _ h1
   obtain ⟨v, h3, h4, h5⟩ := vLoad_sound h b h2
   obtain ⟨vs, h6, h7, h8⟩ := ih h3
   refine ⟨v :: vs, h6, fun x hx => ?_, by simp only [resVals, resVal, a, h5, h8, eraseL]⟩
   rcases List.mem_cons.1 hx with rfl | hx
   ·exact h4
   ·exact h7 x hx
theorem vfinishV_erase (ρ : Nat -> Nat) (vs : List V) : finishV (eraseL ρ vs) = erase ρ (vfinishV vs) := by
 cases vs with
 | nil => simp [vfinishV, finishV, eraseL, erase]
 | cons v vs =>
  cases vs with
  | nil => simp [vfinishV, finishV, eraseL]
  | cons w vs => simp [vfinishV, finishV, eraseL, erase, List.toArray]
theorem vfinishV_ok {vs : List V} (h : VsOk Φ m vs) : VOk Φ m (vfinishV vs) := by
 cases vs with
 | nil => exact .tup h
 | cons v vs =>
  cases vs with
  | nil => exact h v (by simp)
  | cons w vs => exact .tup h
theorem vfinish_sound {fi : FI} {md : VMode} {tm : Tm} {df : List VDef} {ps : VPs} {fr : Fr} {K : VCR -> VS -> Prop} (hk : vfinish C intr fi.res md tm df σ K) (h : SR Φ ρ σ st tm df ps fr) (hm : MOk Φ σ.length md) :
  ∃ n r Φ' ρ' σ' st', finish C (recN C intr n) fi (eraseM ρ md) fr (erasePs ρ ps) st = some (eraseCR ρ' r, erasePs ρ' ps, st') /\ Stp Φ ρ σ.length Φ' ρ' σ'.length /\ Real Φ' ρ' σ' st' /\ CROk Φ' σ'.length r /\ K r σ' := by
 unfold vfinish at hk
 obtain ⟨n, md', Φ', ρ', σ', st', e1, e2, e3, e4, e5⟩ := vunwind_sound df hk h.real h.df.2 hm
 cases md' with
 | panicking v =>
  refine ⟨n, .pan v, Φ', ρ', σ', st', ?_, e2, e3, e4, e5⟩
  unfold finish
  rw [h.df.1, e1]
  simp only [eraseM, eraseCR, (e2.ps h.ps).1]
 | returning =>
  obtain ⟨vs, h1, h2, h3⟩ := vresVals_sound e3 (e2.tm h.tm) fi.res e5
  refine ⟨n, .ret (vfinishV vs), Φ', ρ', σ', st', ?_, e2, e3, vfinishV_ok h2, h1⟩
  unfold finish
  rw [h.df.1, e1]
  simp only [eraseM, h3, eraseCR, (e2.ps h.ps).1, vfinishV_erase]
theorem vparams_look (args : List V) : ∀ (i t : Nat), vlook (vparams i args) t = if i <= t /\ t < i + args.length then args[t - i]? else none := by
 induction args with
 | nil =>
  intro i t
  simp only [vparams, vlook, List.length_nil, Nat.add_zero]
  rw [if_neg (by omega)]
 | cons v args ih =>
  intro i t
  simp only [vparams, vlook_cons, ih, List.length_cons]
  by_cases h : t = i
  ·subst h
   rw [if_pos rfl, if_pos (by omega), Nat.sub_self]
   rfl
  ·rw [if_neg h]
   by_cases h2 : i + 1 <= t /\ t < i + 1 + args.length
   ·rw [if_pos h2, if_pos (by omega), show t - i = (t - (i + 1)) + 1 from by omega]
    rfl
   ·rw [if_neg h2, if_neg (by omega)]
theorem vbody_sound {fz : Nat -> Bool} {f : FuncId} {args : List V} {dfd : Bool} {ps : VPs} {K : VCR -> VPs -> VS -> Prop} (hk : vbody C intr fz f args dfd ps σ K) (h : Real Φ ρ σ st) (ha : VsOk Φ σ.length args) (hp : PsOk Φ σ.length ps) :
  ∃ n r ps' Φ' ρ' σ' st', callF C (recN C intr n) f (eraseL ρ args) dfd (erasePs ρ ps) st = some (eraseCR ρ' r, erasePs ρ' ps', st') /\ Stp Φ ρ σ.length Φ' ρ' σ'.length /\ Real Φ' ρ' σ' st' /\ CROk Φ' σ'.length r /\ PsOk Φ' σ'.length ps' /\ K r ps' σ' := by
 unfold vbody at hk
 split at hk
 ·exact hk.elim
 ·rename_i fi hfi
  split at hk
  ·exact hk.elim
  ·rename_i hn
   have htm : TmRel Φ ρ σ.length (vparams 0 args) (⟨Tr.ofListFrom 0 (eraseL ρ args) .nil, []⟩ : Fr).tm := by
    intro t v hv
    rw [vparams_look] at hv
    split at hv
    ·rename_i hlt
     refine ⟨?_, ha v (List.mem_of_getElem? hv)⟩
     show (Tr.ofListFrom 0 (eraseL ρ args) .nil).get t = _
     rw [Tr.get_ofListFrom, if_pos (by rw [eraseL_length]; exact hlt), eraseL_eq, List.getElem?_map, hv]
     rfl
    ·cases hv
   have hsr : SR Φ ρ σ st (vparams 0 args) [] ps ⟨Tr.ofListFrom 0 (eraseL ρ args) .nil, []⟩ := ⟨h, htm, ⟨rfl, fun _ h => by simp at h⟩, hp⟩
   obtain ⟨n, r, h1, Φ1, ρ1, σ1, st1, x, tm1, df1, ps1, fr1, k1, k2, k3, k4, rfl⟩ := vc_sound fi.body hk hsr ⟨fun l hl => (by cases hl), Nat.le_refl _⟩
   have hn' : Nat.ble (eraseL ρ args).length fi.nt = true := by rw [eraseL_length]; exact hn
   have fin : ∀ md : VMode, MOk Φ1 σ1.length md -> (match (generalizing := false) eraseEx ρ1 x with | .norm => some AM.Mode.returning | .ret => some .returning | .panic v => some (.panicking v) | .exit _ => none) = some (eraseM ρ1 md) ->
     vfinish C intr fi.res md tm1 df1 σ1 (fun r σ => K r ps1 σ) ->
     ∃ n r ps' Φ' ρ' σ' st', callF C (recN C intr n) f (eraseL ρ args) dfd (erasePs ρ ps) st = some (eraseCR ρ' r, erasePs ρ' ps', st') /\ Stp Φ ρ σ.length Φ' ρ' σ'.length /\ Real Φ' ρ' σ' st' /\ CROk Φ' σ'.length r /\ PsOk Φ' σ'.length ps' /\ K r ps' σ' := by
    intro md hmd hx hfin
    obtain ⟨n', r', Φ2, ρ2, σ2, st2, g1, g2, g3, g4, g5⟩ := vfinish_sound (fi := fi) hfin k3 hmd
    refine ⟨max n n', r', ps1, Φ2, ρ2, σ2, st2, ?_, k2.then g2 k2.len, g3, g4, (g2.ps k3.ps).2, g5⟩
    have c1 := code_mono (recN_le (C := C) (intr := intr) (Nat.le_max_left n n')) _ h1
    have c2 := finish_mono (recN_le (C := C) (intr := intr) (Nat.le_max_right n n')) g1
    unfold callF
    simp only [hfi, hn']
    have hfc : eraseFC ρ ⟨f, fi.nt, none, dfd, fz, σ.length⟩ = ⟨f, fi.nt, none, dfd⟩ := rfl
    rw [hfc] at c1
    rw [c1]
    cases x with
    | norm => simp only [eraseEx] at hx ⊢; injection hx with hx; rw [hx]; exact c2
    | ret => simp only [eraseEx] at hx ⊢; injection hx with hx; rw [hx]; exact c2
    | panic v => simp only [eraseEx] at hx ⊢; injection hx with hx; rw [hx]; exact c2
    | exit id => cases hx
   cases x with
   | norm => exact fin .returning trivial rfl k1
   | ret => exact fin .returning trivial rfl k1
   | panic v => exact fin (.panicking v) k4 rfl k1
   | exit id => exact k1.elim
theorem VCall.b0 (fz : Nat -> Bool) {f : FuncId} {args : List V} {K : VCR -> VS -> Prop} (hi : ∀ l, intr f l = none) (hk : vbody C intr fz f args false .none σ fun r _ σ => K r σ) : VCall C intr f args σ K := by
 refine ⟨fun Φ ρ st h ha => ?_⟩
 obtain ⟨n, r, ps', Φ', ρ', σ', st', e1, e2, e3, e4, _, e5⟩ := vbody_sound hk h ha trivial
 refine ⟨n + 1, r, erasePs ρ' ps', st', Φ', ρ', σ', ?_, e2, e3, e4, e5⟩
 simp only [recN, hi]
 exact e1
theorem VCallD.body (fz : Nat -> Bool) {f : FuncId} {args : List V} {ps : VPs} {K : VCR -> VPs -> VS -> Prop} (hk : vbody C intr fz f args true ps σ K) : VCallD C intr f args ps σ K := by
 refine ⟨fun Φ ρ st h ha hp => ?_⟩
 obtain ⟨n, r, ps', Φ', ρ', σ', st', e1, e2, e3, e4, e5, e6⟩ := vbody_sound hk h ha hp
 exact ⟨n + 1, r, ps', st', Φ', ρ', σ', e1, e2, e3, e4, e5, e6⟩
theorem VCall.intrinsic {f : FuncId} {args : List D} {x : D} {K : VCR -> VS -> Prop} (hi : intr f (args.map eraseD) = some (eraseD x)) (hx : flat (eraseD x) = true) (hk : K (.ret (.d x)) σ) : VCall C intr f (args.map V.d) σ K := by
 refine ⟨fun Φ ρ st h ha => ⟨1, .ret (.d x), .none, st, Φ, ρ, σ, ?_, .refl _ _ _, h, .d ?_, hk⟩⟩
 ·rw [eraseL_d]; simp only [recN, hi, eraseCR, erase]
 ·cases x <;> first | (cases hx; done) | constructor
theorem VCall.mono {f : FuncId} {args : List V} {K K' : VCR -> VS -> Prop} (h : VCall C intr f args σ K) (hk : ∀ r σ', K r σ' -> K' r σ') : VCall C intr f args σ K' := by
 refine ⟨fun Φ ρ st hr ha => ?_⟩
 obtain ⟨n, r, ps', st', Φ', ρ', σ', e1, e2, e3, e4, e5⟩ := h.go Φ ρ st hr ha
 exact ⟨n, r, ps', st', Φ', ρ', σ', e1, e2, e3, e4, hk _ _ e5⟩
theorem VCode.loop {fc : VFC} {b : Code} {tm : Tm} {df : List VDef} {ps : VPs} {Q : VEx -> Tm -> List VDef -> VPs -> VS -> Prop}
  (hk : vc C intr fc b tm df ps σ fun x tm df ps σ => match x with
   | .norm => VCode C intr fc (.loop b) tm df ps σ Q
   | x => Q x tm df ps σ) : VCode C intr fc (.loop b) tm df ps σ Q := by
 refine ⟨fun Φ ρ st fr h ht hd hp hf => ?_⟩
 obtain ⟨n, r, h1, Φ1, ρ1, σ1, st1, x, tm1, df1, ps1, fr1, k1, k2, k3, k4, rfl⟩ := vc_sound b hk (fr := fr) ⟨h, ht, hd, hp⟩ hf
 cases x with
 | norm =>
  have k1 : VCode C intr fc (.loop b) tm1 df1 ps1 σ1 Q := k1
  obtain ⟨n', x, fr', tm', df', ps', st', Φ', ρ', σ', e1, e2, e3, e4, e5, e6, e7, e8⟩ := k1.go Φ1 ρ1 st1 fr1 k3.real k3.tm k3.df k3.ps (k2.fcl hf).2
  refine ⟨max n (n' + 1), x, fr', tm', df', ps', st', Φ', ρ', σ', ?_, k2.then e2 (Nat.le_refl _), e3, e4, e5, e6, e7, e8⟩
  have c1 := code_mono (recN_le (C := C) (intr := intr) (Nat.le_max_left n (n' + 1))) _ h1
  have c2 : (recN C intr (n' + 1)).code (eraseFC ρ1 fc) (.loop b) fr1 (erasePs ρ1 ps1) st1 = some (eraseEx ρ' x, fr', erasePs ρ' ps', st') := e1
  have c3 := (recN_le (C := C) (intr := intr) (Nat.le_max_right n (n' + 1))).code _ _ _ _ _ _ c2
  unfold code
  rw [c1]
  simp only [eraseEx]
  rw [(k2.fcl hf).1] at c3
  exact c3
 | exit id => exact ⟨n, .exit id, fr1, tm1, df1, ps1, st1, Φ1, ρ1, σ1, by unfold code; rw [h1]; rfl, k2, k3.real, k3.tm, k3.df, k3.ps, trivial, k1⟩
 | ret => exact ⟨n, .ret, fr1, tm1, df1, ps1, st1, Φ1, ρ1, σ1, by unfold code; rw [h1]; rfl, k2, k3.real, k3.tm, k3.df, k3.ps, trivial, k1⟩
 | panic v => exact ⟨n, .panic v, fr1, tm1, df1, ps1, st1, Φ1, ρ1, σ1, by unfold code; rw [h1]; rfl, k2, k3.real, k3.tm, k3.df, k3.ps, k4, k1⟩
theorem VCode.ofVc {fc : VFC} {c : Code} {tm : Tm} {df : List VDef} {ps : VPs} {Q : VEx -> Tm -> List VDef -> VPs -> VS -> Prop} (hk : vc C intr fc c tm df ps σ Q) : VCode C intr fc c tm df ps σ Q := by
 refine ⟨fun Φ ρ st fr h ht hd hp hf => ?_⟩
 obtain ⟨n, r, h1, Φ1, ρ1, σ1, st1, x, tm1, df1, ps1, fr1, k1, k2, k3, k4, rfl⟩ := vc_sound c hk (fr := fr) ⟨h, ht, hd, hp⟩ hf
 exact ⟨n, x, fr1, tm1, df1, ps1, st1, Φ1, ρ1, σ1, h1, k2, k3.real, k3.tm, k3.df, k3.ps, k4, k1⟩
theorem VCode.join {ι : Type} {fc : VFC} {c : Code} {df : List VDef} {ps : VPs} {Q : VEx -> Tm -> List VDef -> VPs -> VS -> Prop} {G : Prop} (T : ι -> Tm) (S : ι -> VS) (I : ι -> Prop)
  (hw : (∀ i, I i -> VCode C intr fc c (T i) df ps (S i) Q) -> G) (hr : ∀ i, I i -> vc C intr fc c (T i) df ps (S i) Q) : G := hw fun i hi => VCode.ofVc (hr i hi)
theorem VCode.mono {fc : VFC} {c : Code} {tm : Tm} {df : List VDef} {ps : VPs} {Q Q' : VEx -> Tm -> List VDef -> VPs -> VS -> Prop} (h : VCode C intr fc c tm df ps σ Q) (hk : ∀ x tm df ps σ, Q x tm df ps σ -> Q' x tm df ps σ) : VCode C intr fc c tm df ps σ Q' := by
 refine ⟨fun Φ ρ st fr hr ht hd hp hf => ?_⟩
 obtain ⟨n, x, fr', tm', df', ps', st', Φ', ρ', σ', e1, e2, e3, e4, e5, e6, e7, e8⟩ := h.go Φ ρ st fr hr ht hd hp hf
 exact ⟨n, x, fr', tm', df', ps', st', Φ', ρ', σ', e1, e2, e3, e4, e5, e6, e7, hk _ _ _ _ _ e8⟩
def subTm : Tm -> Tm -> Prop
 | [], _ => True
 | (t, v) :: r, tm => vlook tm t = some v /\ subTm r tm
theorem subTm_look : ∀ {a b : Tm}, subTm a b -> ∀ t v, vlook a t = some v -> vlook b t = some v := by
 intro a
 induction a with
 | nil => intro b _ t v h; cases h
 | cons x a ih =>
  intro b h t v hv
  obtain ⟨k, w⟩ := x
  rw [vlook_cons] at hv
  split at hv
  ·rename_i e; cases hv; rw [e]; exact h.1
  ·exact ih h.2 t v hv
theorem VCode.less {fc : VFC} {c : Code} {tm tm0 : Tm} {df : List VDef} {ps : VPs} {Q : VEx -> Tm -> List VDef -> VPs -> VS -> Prop} (hs : subTm tm0 tm) (h : VCode C intr fc c tm0 df ps σ Q) : VCode C intr fc c tm df ps σ Q := by
 refine ⟨fun Φ ρ st fr hr ht hd hp hf => h.go Φ ρ st fr hr (fun t v hv => ht t v (subTm_look hs t v hv)) hd hp hf⟩
end
mutual
def ren (π : Nat -> Nat) : V -> V
 | .d x => .d x
 | .bp i f => .bp (π i) f
 | .ptr i es k f => .ptr (π i) es k f
 | .fp b off cs => .fp b off cs
 | .ms i es k len cap => .ms (π i) es k len cap
 | .map i => .map (π i)
 | .fn f a c => .fn f (renL π a) (renL π c)
 | .yld l => .yld (π l)
 | .iface t v => .iface t (ren π v)
 | .agg l => .agg (renL π l)
 | .tup l => .tup (renL π l)
def renL (π : Nat -> Nat) : List V -> List V
 | [] => []
 | v :: l => ren π v :: renL π l
end
mutual
def bd (k : Nat) : V -> Bool
 | .d _ => true
 | .bp i _ => Nat.blt i k
 | .ptr i _ _ _ => Nat.blt i k
 | .fp _ _ _ => true
 | .ms i _ _ _ _ => Nat.blt i k
 | .map i => Nat.blt i k
 | .fn _ a c => bdL k a && bdL k c
 | .yld l => Nat.blt l k
 | .iface _ v => bd k v
 | .agg l => bdL k l
 | .tup l => bdL k l
def bdL (k : Nat) : List V -> Bool
 | [] => true
 | v :: l => bd k v && bdL k l
end
theorem renL_eq (π : Nat -> Nat) : ∀ l : List V, renL π l = l.map (ren π) := by
 intro l
 induction l with
 | nil => simp [renL]
 | cons v l ih => simp [renL, ih]
theorem bdL_all (k : Nat) : ∀ l : List V, bdL k l = l.all (bd k) := by
 intro l
 induction l with
 | nil => simp [bdL]
 | cons v l ih => simp [bdL, ih]
mutual
theorem erase_ren (ρ π : Nat -> Nat) : ∀ v : V, erase ρ (ren π v) = erase (fun j => ρ (π j)) v
 | .d _ => by simp only [ren, erase]
 | .bp _ _ => by simp only [ren, erase]
 | .ptr _ _ _ _ => by simp only [ren, erase]
 | .fp _ _ _ => by simp only [ren, erase]
 | .ms _ _ _ _ _ => by simp only [ren, erase]
 | .map _ => by simp only [ren, erase]
 | .fn _ a c => by simp only [ren, erase, eraseL_ren ρ π a, eraseL_ren ρ π c]
 | .yld _ => by simp only [ren, erase]
 | .iface _ v => by simp only [ren, erase, erase_ren ρ π v]
 | .agg l => by simp only [ren, erase, eraseL_ren ρ π l]
 | .tup l => by simp only [ren, erase, eraseL_ren ρ π l]
theorem eraseL_ren (ρ π : Nat -> Nat) : ∀ l : List V, eraseL ρ (renL π l) = eraseL (fun j => ρ (π j)) l
 | [] => by simp only [renL, eraseL]
 | v :: l => by simp only [renL, eraseL, erase_ren ρ π v, eraseL_ren ρ π l]
end
theorem blt_lt {a b : Nat} (h : Nat.blt a b = true) : a < b := Nat.le_of_ble_eq_true h
section
variable {Φ : Fz} {k M : Nat} {π : Nat -> Nat}
mutual
theorem ok_unren : ∀ v : V, VOk Φ M (ren π v) -> bd k v = true -> VOk Φ k v
 | .d _, h, _ => by simp only [ren] at h; cases h with | d h => exact .d h
 | .bp _ _, _, hb => .bp (blt_lt (by simpa only [bd] using hb))
 | .ptr _ _ _ _, _, hb => .ptr (blt_lt (by simpa only [bd] using hb))
 | .fp _ _ _, h, _ => by simp only [ren] at h; cases h with | fp h1 h2 h3 h4 h5 => exact .fp h1 h2 h3 h4 h5
 | .ms _ _ _ _ _, _, hb => .ms (blt_lt (by simpa only [bd] using hb))
 | .map _, _, hb => .map (blt_lt (by simpa only [bd] using hb))
 | .fn _ a c, h, hb => by
  simp only [ren] at h
  simp only [bd, Bool.and_eq_true] at hb
  cases h with
  | fn h1 h2 => exact .fn (oks_unren a h1 hb.1) (oks_unren c h2 hb.2)
 | .yld _, _, hb => .yld (blt_lt (by simpa only [bd] using hb))
 | .iface _ v, h, hb => by
  simp only [ren] at h
  simp only [bd] at hb
  cases h with
  | iface h => exact .iface (ok_unren v h hb)
 | .agg l, h, hb => by
  simp only [ren] at h
  simp only [bd] at hb
  cases h with
  | agg h => exact .agg (oks_unren l h hb)
 | .tup l, h, hb => by
  simp only [ren] at h
  simp only [bd] at hb
  cases h with
  | tup h => exact .tup (oks_unren l h hb)
theorem oks_unren : ∀ l : List V, VsOk Φ M (renL π l) -> bdL k l = true -> VsOk Φ k l
 | [], _, _ => fun _ h => by simp at h
 | v :: l, h, hb => by
  simp only [renL] at h
  simp only [bdL, Bool.and_eq_true] at hb
  have h1 := ok_unren v (h _ (List.mem_cons_self ..)) hb.1
  have h2 := oks_unren l (fun y hy => h y (List.mem_cons_of_mem _ hy)) hb.2
  intro x hx
  rcases List.mem_cons.1 hx with e | hx
  ·rw [e]; exact h1
  ·exact h2 x hx
end
theorem ok_ren (hπ : ∀ j, j < k -> π j < M) : ∀ {v : V}, VOk Φ k v -> VOk Φ M (ren π v) := by
 intro v h
 induction h with
 | d h => simp only [ren]; exact .d h
 | bp h => simp only [ren]; exact .bp (hπ _ h)
 | ptr h => simp only [ren]; exact .ptr (hπ _ h)
 | fp h1 h2 h3 h4 h5 => simp only [ren]; exact .fp h1 h2 h3 h4 h5
 | ms h => simp only [ren]; exact .ms (hπ _ h)
 | map h => simp only [ren]; exact .map (hπ _ h)
 | fn _ _ i1 i2 =>
  simp only [ren, renL_eq]
  exact .fn (fun v hv => by obtain ⟨x, hx, rfl⟩ := List.mem_map.1 hv; exact i1 x hx) (fun v hv => by obtain ⟨x, hx, rfl⟩ := List.mem_map.1 hv; exact i2 x hx)
 | yld h => simp only [ren]; exact .yld (hπ _ h)
 | iface _ ih => simp only [ren]; exact .iface ih
 | agg _ ih => simp only [ren, renL_eq]; exact .agg (fun v hv => by obtain ⟨x, hx, rfl⟩ := List.mem_map.1 hv; exact ih x hx)
 | tup _ ih => simp only [ren, renL_eq]; exact .tup (fun v hv => by obtain ⟨x, hx, rfl⟩ := List.mem_map.1 hv; exact ih x hx)
theorem oks_ren (hπ : ∀ j, j < k -> π j < M) {l : List V} (h : VsOk Φ k l) : VsOk Φ M (renL π l) := fun v hv => by
 rw [renL_eq] at hv
 obtain ⟨x, hx, rfl⟩ := List.mem_map.1 hv
 exact ok_ren hπ (h x hx)
theorem isCell_ren (v : V) : isCell (ren π v) = isCell v := by cases v <;> simp only [ren, isCell]
end
def renTm (π : Nat -> Nat) : Tm -> Tm
 | [] => []
 | (t, v) :: r => (t, ren π v) :: renTm π r
theorem renTm_look (π : Nat -> Nat) : ∀ (tm : Tm) (t : Nat), vlook (renTm π tm) t = (vlook tm t).map (ren π) := by
 intro tm
 induction tm with
 | nil => intro t; rfl
 | cons x tm ih =>
  intro t
  obtain ⟨k, v⟩ := x
  simp only [renTm, vlook_cons, ih]
  split <;> rfl
def bdTm (k : Nat) : Tm -> Bool
 | [] => true
 | (_, v) :: r => bd k v && bdTm k r
theorem bdTm_look {k : Nat} : ∀ {tm : Tm}, bdTm k tm = true -> ∀ {t : Nat} {v : V}, vlook tm t = some v -> bd k v = true := by
 intro tm
 induction tm with
 | nil => intro _ t v h; cases h
 | cons x tm ih =>
  intro hb t v h
  obtain ⟨j, w⟩ := x
  simp only [bdTm, Bool.and_eq_true] at hb
  rw [vlook_cons] at h
  split at h
  ·cases h; exact hb.1
  ·exact ih hb.2 h
def renE (π : Nat -> Nat) (e : VEnt) : VEnt := ⟨ren π e.key, ren π e.val, e.born⟩
def renO (π : Nat -> Nat) : VObj -> VObj
 | .box cs => .box (renL π cs)
 | .row es els => .row es (els.map (renL π))
 | .map es c => .map (es.map (renE π)) c
 | .loop L => .loop { L with tm := renTm π L.tm, defers := π L.defers }
 | .defl t => .defl t
 | .gone => .gone
def bdO (k : Nat) : VObj -> Bool
 | .box cs => bdL k cs
 | .row _ els => els.all (bdL k)
 | .map es _ => es.all fun e => bd k e.key && bd k e.val
 | .loop L => bdTm k L.tm && Nat.blt L.defers k
 | .defl _ => true
 | .gone => true
theorem live_ren (π : Nat -> Nat) (o : VObj) : live (renO π o) = live o := by cases o <;> rfl
theorem renL_flat (π : Nat -> Nat) (els : List (List V)) : (els.map (renL π)).flatten = renL π els.flatten := by
 induction els with
 | nil => rfl
 | cons e els ih => simp only [List.map_cons, List.flatten_cons, ih, renL_eq, List.map_append]
theorem renL_len (π : Nat -> Nat) (l : List V) : (renL π l).length = l.length := by rw [renL_eq, List.length_map]
theorem OOk.unren {Φ : Fz} {ρ π : Nat -> Nat} {M k : Nat} {st : St} {o : VObj} {b : Nat} (h : OOk Φ ρ M st (renO π o) b) (hb : bdO k o = true) : OOk Φ (fun j => ρ (π j)) k st o b := by
 cases o with
 | box cs =>
  obtain ⟨⟨h1, h2⟩, h3, h4⟩ := h
  refine ⟨⟨by rw [h1, eraseL_ren, renL_len], h2⟩, oks_unren cs h3 hb, fun v hv => ?_⟩
  rw [<- isCell_ren (π := π)]
  exact h4 _ (by rw [renL_eq]; exact List.mem_map.2 ⟨v, hv, rfl⟩)
 | row es els =>
  obtain ⟨⟨f, p, h1⟩, h2, h3, h4⟩ := h
  have hb : els.all (bdL k) = true := hb
  rw [List.all_eq_true] at hb
  refine ⟨⟨f, p, by rw [h1, renL_flat, eraseL_ren]⟩, fun e he => ?_, fun e he => ?_, fun e he v hv => ?_⟩
  ·rw [<- h2 (renL π e) (List.mem_map.2 ⟨e, he, rfl⟩), renL_len]
  ·exact oks_unren e (h3 _ (List.mem_map.2 ⟨e, he, rfl⟩)) (hb e he)
  ·rw [<- isCell_ren (π := π)]
   exact h4 _ (List.mem_map.2 ⟨e, he, rfl⟩) _ (by rw [renL_eq]; exact List.mem_map.2 ⟨v, hv, rfl⟩)
 | map es c =>
  obtain ⟨h1, h2⟩ := h
  have hb : (es.all fun e => bd k e.key && bd k e.val) = true := hb
  rw [List.all_eq_true] at hb
  refine ⟨?_, fun e he => ?_⟩
  ·rw [h1, List.map_map]
   congr 2
   exact List.map_congr_left fun e _ => by simp only [Function.comp, eraseE, renE, erase_ren]
  ·have := h2 (renE π e) (List.mem_map.2 ⟨e, he, rfl⟩)
   have hbe := hb e he
   rw [Bool.and_eq_true] at hbe
   exact ⟨ok_unren _ this.1 hbe.1, ok_unren _ this.2 hbe.2⟩
 | loop L =>
  obtain ⟨al, h1, h2⟩ := h
  have hb : (bdTm k L.tm && Nat.blt L.defers k) = true := hb
  rw [Bool.and_eq_true] at hb
  refine ⟨al, h1, h2.state, h2.pending, h2.fn, fun t v hv => ?_, h2.nt, h2.params, h2.assign, h2.body, h2.defers, blt_lt hb.2⟩
  have := h2.tm t (ren π v) (by show vlook (renTm π L.tm) t = _; rw [renTm_look, hv]; rfl)
  rw [erase_ren] at this
  exact ⟨this.1, ok_unren _ this.2 (bdTm_look hb.1 hv)⟩
 | defl t => exact h
 | gone => trivial
theorem OOk.ren {Φ : Fz} {ρ π : Nat -> Nat} {M k : Nat} {st : St} {o : VObj} {b : Nat} (hπ : ∀ j, j < k -> π j < M) (h : OOk Φ (fun j => ρ (π j)) k st o b) : OOk Φ ρ M st (renO π o) b := by
 cases o with
 | box cs =>
  obtain ⟨⟨h1, h2⟩, h3, h4⟩ := h
  refine ⟨⟨by rw [h1, eraseL_ren, renL_len], h2⟩, oks_ren hπ h3, fun v hv => ?_⟩
  rw [renL_eq] at hv
  obtain ⟨x, hx, rfl⟩ := List.mem_map.1 hv
  rw [isCell_ren]
  exact h4 x hx
 | row es els =>
  obtain ⟨⟨f, p, h1⟩, h2, h3, h4⟩ := h
  refine ⟨⟨f, p, by rw [h1, renL_flat, eraseL_ren]⟩, fun e he => ?_, fun e he => ?_, fun e he v hv => ?_⟩
  ·obtain ⟨x, hx, rfl⟩ := List.mem_map.1 he
   rw [renL_len]; exact h2 x hx
  ·obtain ⟨x, hx, rfl⟩ := List.mem_map.1 he
   exact oks_ren hπ (h3 x hx)
  ·obtain ⟨x, hx, rfl⟩ := List.mem_map.1 he
   rw [renL_eq] at hv
   obtain ⟨y, hy, rfl⟩ := List.mem_map.1 hv
   rw [isCell_ren]
   exact h4 x hx y hy
 | map es c =>
  obtain ⟨h1, h2⟩ := h
  refine ⟨?_, fun e he => ?_⟩
  ·rw [h1, List.map_map]
   congr 2
   exact List.map_congr_left fun e _ => by simp only [Function.comp, eraseE, renE, erase_ren]
  ·obtain ⟨x, hx, rfl⟩ := List.mem_map.1 he
   exact ⟨ok_ren hπ (h2 x hx).1, ok_ren hπ (h2 x hx).2⟩
 | loop L =>
  obtain ⟨al, h1, h2⟩ := h
  refine ⟨al, h1, h2.state, h2.pending, h2.fn, fun t v hv => ?_, h2.nt, h2.params, h2.assign, h2.body, h2.defers, hπ _ h2.dlt⟩
  have hv : vlook (renTm π L.tm) t = some v := hv
  rw [renTm_look] at hv
  cases hl : vlook L.tm t with
  | none => rw [hl] at hv; cases hv
  | some w =>
   rw [hl] at hv
   cases hv
   obtain ⟨a, c⟩ := h2.tm t w hl
   exact ⟨by rw [erase_ren]; exact a, ok_ren hπ c⟩
 | defl t => exact h
 | gone => trivial
def Fz.dle (Φ Φ' : Fz) : Prop := ∀ b o, Φ b = some o -> Φ.dat b -> Φ' b = some o /\ Φ'.dat b
theorem DOk.dmono {Φ Φ' : Fz} (h : Φ.dle Φ') {d : D} (hd : DOk Φ d) : DOk Φ' d := by
 induction hd with
 | bool b => exact .bool b
 | int k n => exact .int k n
 | str s => exact .str s
 | nilp => exact .nilp
 | nils => exact .nils
 | nilm => exact .nilm
 | nilf => exact .nilf
 | nili => exact .nili
 | ps h1 h2 h3 h4 _ h6 ih => exact .ps (h _ _ h1 h6).1 h2 h3 h4 ih (h _ _ h1 h6).2
theorem VOk.dmono {Φ Φ' : Fz} {m : Nat} (h : Φ.dle Φ') {v : V} (hv : VOk Φ m v) : VOk Φ' m v := by
 induction hv with
 | d hd => exact .d (hd.dmono h)
 | bp h1 => exact .bp h1
 | ptr h1 => exact .ptr h1
 | fp h1 h2 h3 h4 h5 => exact .fp (h _ _ h1 h5).1 h2 h3 (fun d hd => (h4 d hd).dmono h) (h _ _ h1 h5).2
 | ms h1 => exact .ms h1
 | map h1 => exact .map h1
 | fn _ _ i1 i2 => exact .fn i1 i2
 | yld h1 => exact .yld h1
 | iface _ ih => exact .iface ih
 | agg _ ih => exact .agg ih
 | tup _ ih => exact .tup ih
theorem OOk.dmono {Φ Φ' : Fz} {ρ : Nat -> Nat} {m : Nat} {st : St} {o : VObj} {b : Nat} (h : Φ.dle Φ') (k : OOk Φ ρ m st o b) : OOk Φ' ρ m st o b := by
 cases o with
 | box cs => exact ⟨k.1, fun v hv => (k.2.1 v hv).dmono h, k.2.2⟩
 | row es els => exact ⟨k.1, k.2.1, fun e he v hv => (k.2.2.1 e he v hv).dmono h, k.2.2.2⟩
 | map es clock => exact ⟨k.1, fun e he => ⟨(k.2 e he).1.dmono h, (k.2 e he).2.dmono h⟩⟩
 | loop L =>
  obtain ⟨al, k1, k2⟩ := k
  exact ⟨al, k1, k2.state, k2.pending, k2.fn, fun t v hv => ⟨(k2.tm t v hv).1, (k2.tm t v hv).2.dmono h⟩, k2.nt, k2.params, k2.assign, k2.body, k2.defers, k2.dlt⟩
 | defl t => exact k
 | gone => trivial
def emb (ix : List Nat) (N j : Nat) : Nat :=
 match nth ix j with
 | some i => i
 | none => N + (j - ix.length)
def merge : VS -> List Nat -> VS -> VS
 | σ, [], l => σ ++ l
 | σ, _ :: _, [] => σ
 | σ, i :: ix, o :: l => merge (σ.set i o) ix l
theorem merge_len : ∀ (ix : List Nat) (σ l : VS), ix.length <= l.length -> (merge σ ix l).length = σ.length + (l.length - ix.length) := by
 intro ix
 induction ix with
 | nil => intro σ l _; simp [merge]
 | cons i ix ih =>
  intro σ l h
  cases l with
  | nil => simp at h
  | cons o l =>
   simp only [merge]
   rw [ih _ _ (by simpa using h), List.length_set]
   simp
theorem merge_rest : ∀ (ix : List Nat) (σ l : VS) (i : Nat), i ∉ ix -> i < σ.length -> (merge σ ix l)[i]? = σ[i]? := by
 intro ix
 induction ix with
 | nil => intro σ l i _ h; simp only [merge]; rw [List.getElem?_append_left h]
 | cons i0 ix ih =>
  intro σ l i hi h
  cases l with
  | nil => rfl
  | cons o l =>
   simp only [merge]
   rw [ih _ _ _ (fun e => hi (by simp [e])) (by rw [List.length_set]; exact h), List.getElem?_set_ne (fun e => hi (by simp [e]))]
theorem merge_at : ∀ (ix : List Nat) (σ l : VS) (j i : Nat), ix.Nodup -> (∀ i ∈ ix, i < σ.length) -> ix.length <= l.length -> ix[j]? = some i -> (merge σ ix l)[i]? = l[j]? := by
 intro ix
 induction ix with
 | nil => intro σ l j i _ _ _ h; simp at h
 | cons i0 ix ih =>
  intro σ l j i hnd hlt hl h
  cases l with
  | nil => simp at hl
  | cons o l =>
   simp only [merge]
   have hnd' := List.nodup_cons.1 hnd
   cases j with
   | zero =>
    simp at h
    subst h
    rw [merge_rest _ _ _ _ hnd'.1 (by rw [List.length_set]; exact hlt _ (by simp)), List.getElem?_set_self (hlt _ (by simp))]
    rfl
   | succ j =>
    rw [ih _ _ j i hnd'.2 (fun i hi => by rw [List.length_set]; exact hlt i (by simp [hi])) (by simpa using hl) (by simpa using h)]
    rfl
theorem merge_new : ∀ (ix : List Nat) (σ l : VS) (t : Nat), ix.length <= l.length -> (merge σ ix l)[σ.length + t]? = l[ix.length + t]? := by
 intro ix
 induction ix with
 | nil => intro σ l t _; simp only [merge, List.length_nil, Nat.zero_add]; rw [List.getElem?_append_right (by omega)]; congr 1; omega
 | cons i ix ih =>
  intro σ l t h
  cases l with
  | nil => simp at h
  | cons o l =>
   simp only [merge]
   have := ih (σ.set i o) l t (by simpa using h)
   rw [List.length_set] at this
   rw [this, List.length_cons, show ix.length + 1 + t = (ix.length + t) + 1 from by omega]
   rfl
def renCR (π : Nat -> Nat) : VCR -> VCR
 | .ret v => .ret (ren π v)
 | .pan v => .pan (ren π v)
section
variable {C : Ctx} {intr : FuncId -> List Value -> Option Value} {Φ : Fz} {ρ : Nat -> Nat} {σ : VS} {st : St}
def restB (σ : VS) (ρ : Nat -> Nat) (ix : List Nat) (x : Nat) : Prop := ∃ i o, σ[i]? = some o /\ live o = true /\ i ∉ ix /\ ρ i = x
open Classical in
noncomputable def frameF (Φ : Fz) (σ : VS) (ρ : Nat -> Nat) (ix : List Nat) (st : St) : Fz :=
 ⟨fun x => if restB σ ρ ix x then st.get x else Φ x, fun x => Φ.dat x /\ ¬ restB σ ρ ix x, fun f => Φ.nof f ∨ ∃ i cs, σ[i]? = some (.box cs) /\ i ∉ ix /\ ρ i = f⟩
open Classical in
noncomputable def backF (Φ Φ0 : Fz) (σ : VS) (ρ : Nat -> Nat) (ix : List Nat) : Fz :=
 ⟨fun x => if restB σ ρ ix x then none else Φ0 x, Φ0.dat, Φ.nof⟩
open Classical in
theorem frameF_rest {ix : List Nat} {x : Nat} (h : restB σ ρ ix x) : (frameF Φ σ ρ ix st) x = st.get x := by
 show (if restB σ ρ ix x then st.get x else Φ x) = _
 rw [if_pos h]
open Classical in
theorem frameF_not {ix : List Nat} {x : Nat} (h : ¬ restB σ ρ ix x) : (frameF Φ σ ρ ix st) x = Φ x := by
 show (if restB σ ρ ix x then st.get x else Φ x) = _
 rw [if_neg h]
open Classical in
theorem backF_rest {Φ0 : Fz} {ix : List Nat} {x : Nat} (h : restB σ ρ ix x) : (backF Φ Φ0 σ ρ ix) x = none := by
 show (if restB σ ρ ix x then none else Φ0 x) = _
 rw [if_pos h]
open Classical in
theorem backF_not {Φ0 : Fz} {ix : List Nat} {x : Nat} (h : ¬ restB σ ρ ix x) : (backF Φ Φ0 σ ρ ix) x = Φ0 x := by
 show (if restB σ ρ ix x then none else Φ0 x) = _
 rw [if_neg h]
def backR (ρ ρ1 : Nat -> Nat) (N k : Nat) : Nat -> Nat := fun i => if i < N then ρ i else ρ1 (k + (i - N))
theorem live_get (h : Real Φ ρ σ st) {i : Nat} {o : VObj} (hi : σ[i]? = some o) (hl : live o = true) : ∃ a, st.get (ρ i) = some a /\ ((∃ c e f p, a = .cells c e f p) -> cellObj o = true) := by
 have hk := (h.obj i o hi hl).1
 cases o with
 | box cs => exact ⟨_, hk.1.1, fun _ => rfl⟩
 | row es els => obtain ⟨⟨f, p, k⟩, _⟩ := hk; exact ⟨_, k, fun _ => rfl⟩
 | map es clock => exact ⟨_, hk.1, fun ⟨_, _, _, _, e⟩ => by cases e⟩
 | loop L => obtain ⟨al, k, _⟩ := hk; exact ⟨_, k, fun ⟨_, _, _, _, e⟩ => by cases e⟩
 | defl t => exact ⟨_, hk, fun ⟨_, _, _, _, e⟩ => by cases e⟩
 | gone => cases hl
theorem emb_at {ix : List Nat} {j i : Nat} (h : ix[j]? = some i) (N : Nat) : emb ix N j = i := by
 unfold emb; rw [nth_eq, h]
theorem emb_new {ix : List Nat} {j : Nat} (h : ix.length <= j) (N : Nat) : emb ix N j = N + (j - ix.length) := by
 unfold emb; rw [nth_eq, List.getElem?_eq_none h]
theorem VCall.frame (ix : List Nat) {f : FuncId} {σ0 : VS} {args0 args : List V} {K0 K : VCR -> VS -> Prop} (h0 : VCall C intr f args0 σ0 K0) (hl : ix.length = σ0.length) (hnd : ix.Nodup)
  (hobj : ∀ j i : Nat, ix[j]? = some i -> ∃ o, σ0[j]? = some o /\ σ[i]? = some (renO (emb ix σ.length) o) /\ bdO σ0.length o = true)
  (hbargs : bdL σ0.length args0 = true) (hargs : args = renL (emb ix σ.length) args0)
  (hK : ∀ r0 σ0', K0 r0 σ0' -> σ0.length <= σ0'.length -> K (renCR (emb ix σ.length) r0) (merge σ ix (σ0'.map (renO (emb ix σ.length))))) : VCall C intr f args σ K := by
 refine ⟨fun Φ ρ st h ha => ?_⟩
 have hlt : ∀ i ∈ ix, i < σ.length := fun i hi => by
  obtain ⟨j, hj⟩ := List.getElem?_of_mem hi
  obtain ⟨o, _, h2, _⟩ := hobj j i hj
  exact (List.getElem?_eq_some_iff.1 h2).1
 have hjix : ∀ j o, σ0[j]? = some o -> ∃ i, ix[j]? = some i /\ σ[i]? = some (renO (emb ix σ.length) o) /\ bdO σ0.length o = true := fun j o hj => by
  have hlt : j < ix.length := by rw [hl]; exact (List.getElem?_eq_some_iff.1 hj).1
  refine ⟨ix[j], List.getElem?_eq_getElem hlt, ?_⟩
  obtain ⟨o', h1, h2, h3⟩ := hobj j _ (List.getElem?_eq_getElem hlt)
  rw [hj] at h1
  cases h1
  exact ⟨h2, h3⟩
 have hinj : ∀ j k i, ix[j]? = some i -> ix[k]? = some i -> j = k := fun j k i hj hk => by
  have h1 := (List.getElem?_eq_some_iff.1 hj)
  have h2 := (List.getElem?_eq_some_iff.1 hk)
  obtain ⟨a, ha⟩ := h1
  obtain ⟨b, hb⟩ := h2
  have hp := List.pairwise_iff_getElem.1 hnd
  rcases Nat.lt_trichotomy j k with hjk | hjk | hjk
  ·exact absurd (ha.trans hb.symm) (hp j k a b hjk)
  ·exact hjk
  ·exact absurd (hb.trans ha.symm) (hp k j b a hjk)
 have hrn : ∀ x, restB σ ρ ix x -> Φ x = none := fun x ⟨i, o, hi, hlv, _, e⟩ => by rw [<- e]; exact (h.obj i o hi hlv).2
 have hnr : ∀ {i : Nat} {o : VObj}, i ∈ ix -> σ[i]? = some o -> live o = true -> ¬ restB σ ρ ix (ρ i) := fun {i o} hi ho hlv ⟨i', o', h1, h2, h3, e⟩ => h3 (by
  have := h.inj i' i o' o h1 ho h2 hlv e
  rw [this]; exact hi)
 have hle : Φ.le (frameF Φ σ ρ ix st) := by
  refine ⟨fun b o hb => ?_, fun b o hb => ?_, fun _ h => .inl h⟩
  ·have : ¬ restB σ ρ ix b := fun hr => by rw [hrn b hr] at hb; cases hb
   rw [frameF_not this]; exact hb
  ·have : ¬ restB σ ρ ix b := fun hr => by rw [hrn b hr] at hb; cases hb
   exact ⟨fun hd => hd.1, fun hd => ⟨hd, this⟩⟩
 have hmat : ∀ x c e fm p, (frameF Φ σ ρ ix st) x = some (.cells c e fm p) -> st.get x = some (.cells c e fm p) /\ ((Φ x = some (.cells c e fm p)) ∨ ∃ i o, σ[i]? = some o /\ cellObj o = true /\ i ∉ ix /\ ρ i = x) := by
  intro x c e fm p hx
  by_cases hr : restB σ ρ ix x
  ·have hr0 := hr
   rw [frameF_rest hr] at hx
   obtain ⟨i, o, h1, h2, h3, h4⟩ := hr
   obtain ⟨a, g1, g2⟩ := live_get h h1 h2
   rw [h4, hx] at g1
   cases g1
   exact ⟨hx, .inr ⟨i, o, h1, g2 ⟨_, _, _, _, rfl⟩, h3, h4⟩⟩
  ·rw [frameF_not hr] at hx
   exact ⟨h.fz _ _ hx, .inl hx⟩
 have hcl : ∀ {o : VObj}, cellObj o = true -> live o = true := fun {o} ho => by cases o <;> first | rfl | cases ho
 have hr0 : Real (frameF Φ σ ρ ix st) (fun j => ρ (emb ix σ.length j)) σ0 st := by
  refine ⟨h.wf, h.wm, fun b o hb => ?_, fun b hb => ?_, fun fm hf => ?_, fun x y c e fm p c' e' p' hx hy => ?_, fun j es els c e fm p hj hg => ?_, fun j o hj hlv => ?_, fun j k oj ok hj hk hlj hlk e => ?_, fun j es els c e fm p ms x hj hg hm hx hne => ?_⟩
  ·by_cases hr : restB σ ρ ix b
   ·rw [frameF_rest hr] at hb; exact hb
   ·rw [frameF_not hr] at hb; exact h.fz b o hb
  ·by_cases hr : restB σ ρ ix b
   ·rw [frameF_rest hr] at hb
    obtain ⟨i, o, h1, h2, h3, h4⟩ := hr
    rw [<- h4] at hb
    have hk := (h.obj i o h1 h2).1
    cases o with
    | box cs => rw [hk.1.1] at hb; cases hb
    | row es els => obtain ⟨⟨_, _, k⟩, _⟩ := hk; rw [k] at hb; cases hb
    | map es clock => rw [hk.1] at hb; cases hb
    | loop L => obtain ⟨_, k, _⟩ := hk; rw [k] at hb; cases hb
    | defl t => have k : st.get (ρ i) = some (.defl t) := hk; rw [k] at hb; cases hb
    | gone => cases h2
   ·rw [frameF_not hr] at hb; exact h.ndd b hb
  ·rcases hf with hf | ⟨i, cs, h1, _, h3⟩
   ·exact h.nof fm hf
   ·obtain ⟨⟨⟨k1, k2⟩, _⟩, _⟩ := h.obj i _ h1 rfl
    rw [<- h3]
    exact ⟨k2, h.lt h1 rfl⟩
  ·obtain ⟨gx, mx⟩ := hmat x c e fm p hx
   obtain ⟨gy, my⟩ := hmat y c' e' fm p' hy
   by_cases hxy : x = y
   ·exact hxy
   ·exfalso
    rcases mx with mx | ⟨i, o, h1, h2, h3, h4⟩
    ·rcases my with my | ⟨i, o, h1, h2, h3, h4⟩
     ·exact hxy (h.fzd x y _ _ _ _ _ _ _ mx my)
     ·subst h4
      exact h.fam_ne h1 h2 gy gx hxy (.inl (by rw [mx]; simp)) rfl
    ·subst h4
     refine h.fam_ne h1 h2 gx gy (fun e => hxy e.symm) ?_ rfl
     rcases my with my | ⟨i', o', k1, k2, k3, k4⟩
     ·exact .inl (by rw [my]; simp)
     ·exact .inr ⟨i', o', k1, hcl k2, k4⟩
  ·obtain ⟨i, h1, h2, h3⟩ := hjix j _ hj
   have hg : st.get (ρ (emb ix σ.length j)) = some (.cells c e fm p) := hg
   rw [emb_at h1] at hg
   rintro (hn | ⟨i', cs, g1, g2, g3⟩)
   ·exact h.rnf i _ _ _ _ _ _ h2 hg hn
   ·obtain ⟨⟨⟨k1, k2⟩, _⟩, _⟩ := h.obj i' _ g1 rfl
    have hne : ρ i' ≠ ρ i := fun e => g2 (by
     have := h.inj i' i _ _ g1 h2 rfl rfl e
     rw [this]; exact List.mem_of_getElem? h1)
    exact h.fam_ne h2 rfl hg k1 hne (.inr ⟨i', _, g1, rfl, rfl⟩) g3
  ·obtain ⟨i, h1, h2, h3⟩ := hjix j _ hj
   have hlv' : live (renO (emb ix σ.length) o) = true := by rw [live_ren]; exact hlv
   obtain ⟨k1, k2⟩ := h.obj i _ h2 hlv'
   show OOk _ _ _ _ _ (ρ (emb ix σ.length j)) /\ (frameF Φ σ ρ ix st) (ρ (emb ix σ.length j)) = none
   rw [emb_at h1]
   refine ⟨?_, by rw [frameF_not (hnr (List.mem_of_getElem? h1) h2 hlv')]; exact k2⟩
   have := k1.unren h3
   exact (⟨hle, fun _ _ => rfl, Nat.le_refl _⟩ : Stp Φ (fun j => ρ (emb ix σ.length j)) σ0.length (frameF Φ σ ρ ix st) (fun j => ρ (emb ix σ.length j)) σ0.length).obj rfl (fun _ _ _ _ _ hn => hn) this
  ·obtain ⟨i, h1, h2, _⟩ := hjix j _ hj
   obtain ⟨i', h1', h2', _⟩ := hjix k _ hk
   have e : ρ (emb ix σ.length j) = ρ (emb ix σ.length k) := e
   rw [emb_at h1, emb_at h1'] at e
   have := h.inj i i' _ _ h2 h2' (by rw [live_ren]; exact hlj) (by rw [live_ren]; exact hlk) e
   subst this
   exact hinj j k i h1 h1'
  ·obtain ⟨i, h1, h2, h3⟩ := hjix j _ hj
   have hg : st.get (ρ (emb ix σ.length j)) = some (.cells c e fm p) := hg
   have hne : x ≠ ρ (emb ix σ.length j) := hne
   rw [emb_at h1] at hg hne
   obtain ⟨k1, k2⟩ := h.fam i _ _ _ _ _ _ ms x h2 hg hm hx hne
   refine ⟨?_, fun j' o' hj' hl' => ?_⟩
   ·rw [frameF_not]
    ·exact k1
    ·rintro ⟨i', o', g1, g2, _, g4⟩
     exact k2 i' o' g1 g2 g4
   ·obtain ⟨i', h1', h2', _⟩ := hjix j' _ hj'
    show ρ (emb ix σ.length j') ≠ x
    rw [emb_at h1']
    exact k2 i' _ h2' (by rw [live_ren]; exact hl')
 have hargs0 : VsOk (frameF Φ σ ρ ix st) σ0.length args0 := by
  rw [hargs] at ha
  exact (oks_unren args0 ha hbargs).mono hle (Nat.le_refl _)
 obtain ⟨n, r0, ps', st', Φ1, ρ1, σ1, e1, e2, e3, e4, e5⟩ := h0.go _ _ st hr0 hargs0
 have hl1 : ix.length <= (σ1.map (renO (emb ix σ.length))).length := by rw [List.length_map, hl]; exact e2.len
 have hrho : ∀ j, (backR ρ ρ1 σ.length ix.length) (emb ix σ.length j) = ρ1 j := by
  intro j
  by_cases hj : j < ix.length
  ·have h1 := List.getElem?_eq_getElem hj
   rw [emb_at h1]
   show (if ix[j] < σ.length then _ else _) = _
   rw [if_pos (hlt _ (List.getElem_mem hj))]
   have := e2.rho j (by rw [<- hl]; exact hj)
   rw [this, emb_at h1]
  ·rw [emb_new (by omega)]
   show (if σ.length + (j - ix.length) < σ.length then _ else _) = _
   rw [if_neg (by omega)]
   congr 1
   omega
 have hlen := merge_len ix σ (σ1.map (renO (emb ix σ.length))) hl1
 rw [List.length_map] at hlen
 have hπ : ∀ j, j < σ1.length -> emb ix σ.length j < (merge σ ix (σ1.map (renO (emb ix σ.length)))).length := by
  intro j hj
  rw [hlen]
  by_cases hj2 : j < ix.length
  ·rw [emb_at (List.getElem?_eq_getElem hj2)]
   have := hlt _ (List.getElem_mem hj2)
   omega
  ·rw [emb_new (by omega)]
   omega
 have hcase : ∀ i o, (merge σ ix (σ1.map (renO (emb ix σ.length))))[i]? = some o -> (∃ j o0, σ1[j]? = some o0 /\ o = renO (emb ix σ.length) o0 /\ emb ix σ.length j = i) ∨ (i < σ.length /\ i ∉ ix /\ σ[i]? = some o) := by
  intro i o ho
  by_cases hi : i < σ.length
  ·by_cases hm : i ∈ ix
   ·obtain ⟨j, hj⟩ := List.getElem?_of_mem hm
    rw [merge_at ix σ _ j i hnd hlt hl1 hj, List.getElem?_map] at ho
    cases h1 : σ1[j]? with
    | none => rw [h1] at ho; cases ho
    | some o0 => rw [h1] at ho; cases ho; exact .inl ⟨j, o0, h1, rfl, emb_at hj _⟩
   ·rw [merge_rest ix σ _ i hm hi] at ho
    exact .inr ⟨hi, hm, ho⟩
  ·have := merge_new ix σ (σ1.map (renO (emb ix σ.length))) (i - σ.length) hl1
   rw [show σ.length + (i - σ.length) = i from by omega, ho, List.getElem?_map] at this
   cases h1 : σ1[ix.length + (i - σ.length)]? with
   | none => rw [h1] at this; cases this
   | some o0 =>
    rw [h1] at this
    cases this
    exact .inl ⟨_, o0, h1, rfl, by rw [emb_new (by omega)]; omega⟩
 have hrgone : ∀ {i : Nat} {o : VObj}, σ[i]? = some o -> live o = true -> i ∉ ix -> st'.get (ρ i) = st.get (ρ i) /\ Φ1 (ρ i) = st.get (ρ i) /\ ¬ Φ1.dat (ρ i) := by
  intro i o hi hlv hm
  have hr : restB σ ρ ix (ρ i) := ⟨i, o, hi, hlv, hm, rfl⟩
  obtain ⟨a, g1, _⟩ := live_get h hi hlv
  have hf : (frameF Φ σ ρ ix st) (ρ i) = some a := by rw [frameF_rest hr]; exact g1
  have h1 := e2.le.blk _ _ hf
  exact ⟨by rw [e3.fz _ _ h1, g1], by rw [h1, g1], fun hd => ((e2.le.dat _ _ hf).1 hd).2 hr⟩
 have hdle : Φ1.dle (backF Φ Φ1 σ ρ ix) := by
  intro b o hb hd
  have : ¬ restB σ ρ ix b := fun ⟨i, o', h1, h2, h3, h4⟩ => (hrgone h1 h2 h3).2.2 (h4 ▸ hd)
  exact ⟨by rw [backF_not this]; exact hb, hd⟩
 have hle2 : Φ.le (backF Φ Φ1 σ ρ ix) := by
  refine ⟨fun b o hb => ?_, fun b o hb => ?_, fun _ h => h⟩
  ·have : ¬ restB σ ρ ix b := fun hr => by rw [hrn b hr] at hb; cases hb
   rw [backF_not this]
   exact e2.le.blk _ _ (hle.blk _ _ hb)
  ·have h1 := hle.blk _ _ hb
   exact (e2.le.dat _ _ h1).trans (hle.dat _ _ hb)
 have hstp : Stp Φ ρ σ.length (backF Φ Φ1 σ ρ ix) (backR ρ ρ1 σ.length ix.length) (merge σ ix (σ1.map (renO (emb ix σ.length)))).length :=
  ⟨hle2, fun i hi => if_pos hi, by rw [hlen]; omega⟩
 have hfun : (fun j => (backR ρ ρ1 σ.length ix.length) (emb ix σ.length j)) = ρ1 := funext hrho
 have hfew : ∀ {j : Nat} {o : VObj}, σ1[j]? = some o -> live o = true -> ¬ restB σ ρ ix (ρ1 j) := by
  rintro j o hj hlv ⟨i, o', h1, h2, h3, h4⟩
  have := (hrgone h1 h2 h3).2.1
  obtain ⟨a, g1, _⟩ := live_get h h1 h2
  rw [h4, (e3.obj j o hj hlv).2] at this
  rw [h4] at g1
  rw [g1] at this
  cases this
 have hreal : Real (backF Φ Φ1 σ ρ ix) (backR ρ ρ1 σ.length ix.length) (merge σ ix (σ1.map (renO (emb ix σ.length)))) st' := by
  have hrl : ∀ i, i < σ.length -> (backR ρ ρ1 σ.length ix.length) i = ρ i := fun i hi => if_pos hi
  refine ⟨e3.wf, e3.wm, fun b o hb => ?_, fun b hb => ?_, fun fm hf => e3.nof fm (e2.le.nof _ (hle.nof _ hf)), fun x y c e fm p c' e' p' hx hy => ?_, fun i es els c e fm p hi hg => ?_, fun i o hi hlv => ?_, fun i k oi ok hi hk hli hlk e => ?_, fun i es els c e fm p ms x hi hg hm hx hne => ?_⟩
  ·by_cases hr : restB σ ρ ix b
   ·rw [backF_rest hr] at hb; cases hb
   ·rw [backF_not hr] at hb; exact e3.fz b o hb
  ·by_cases hr : restB σ ρ ix b
   ·rw [backF_rest hr] at hb; cases hb
   ·rw [backF_not hr] at hb; exact e3.ndd b hb
  ·by_cases hrx : restB σ ρ ix x
   ·rw [backF_rest hrx] at hx; cases hx
   ·by_cases hry : restB σ ρ ix y
    ·rw [backF_rest hry] at hy; cases hy
    ·rw [backF_not hrx] at hx
     rw [backF_not hry] at hy
     exact e3.fzd x y _ _ _ _ _ _ _ hx hy
  ·rcases hcase i _ hi with ⟨j, o0, h1, h2, rfl⟩ | ⟨h1, h2, h3⟩
   ·cases o0 with
    | row es' els' =>
     rw [hrho] at hg
     intro hn
     exact e3.rnf j _ _ _ _ _ _ h1 hg (e2.le.nof _ (hle.nof _ hn))
    | _ => cases h2
   ·rw [hrl i h1, (hrgone h3 rfl h2).1] at hg
    exact h.rnf i _ _ _ _ _ _ h3 hg
  ·rcases hcase i _ hi with ⟨j, o0, h1, rfl, rfl⟩ | ⟨h1, h2, h3⟩
   ·rw [live_ren] at hlv
    obtain ⟨k1, k2⟩ := e3.obj j _ h1 hlv
    rw [hrho]
    refine ⟨?_, by rw [backF_not (hfew h1 hlv)]; exact k2⟩
    refine OOk.ren hπ ?_
    rw [hfun]
    exact k1.dmono hdle
   ·rw [hrl i h1]
    obtain ⟨k1, k2⟩ := h.obj i _ h3 hlv
    refine ⟨?_, backF_rest ⟨i, o, h3, hlv, h2, rfl⟩⟩
    refine hstp.obj' (hrgone h3 hlv h2).1 (fun cs e => ?_) k1
    subst e
    exact (e3.nof _ (e2.le.nof _ (.inr ⟨i, cs, h3, h2, rfl⟩))).1
  ·rcases hcase i _ hi with ⟨j, o0, h1, rfl, rfl⟩ | ⟨h1, h2, h3⟩
   ·rw [live_ren] at hli
    rcases hcase k _ hk with ⟨j', o0', h1', rfl, rfl⟩ | ⟨h1', h2', h3'⟩
    ·rw [live_ren] at hlk
     rw [hrho, hrho] at e
     rw [e3.inj j j' _ _ h1 h1' hli hlk e]
    ·rw [hrho, hrl k h1'] at e
     exact absurd ⟨k, ok, h3', hlk, h2', e.symm⟩ (hfew h1 hli)
   ·rcases hcase k _ hk with ⟨j', o0', h1', rfl, rfl⟩ | ⟨h1', h2', h3'⟩
    ·rw [live_ren] at hlk
     rw [hrho, hrl i h1] at e
     exact absurd ⟨i, oi, h3, hli, h2, e⟩ (hfew h1' hlk)
    ·rw [hrl i h1, hrl k h1'] at e
     exact h.inj i k _ _ h3 h3' hli hlk e
  ·
   have few : ∀ k ok, (merge σ ix (σ1.map (renO (emb ix σ.length))))[k]? = some ok -> live ok = true -> (∃ j o0, σ1[j]? = some o0 /\ live o0 = true /\ (backR ρ ρ1 σ.length ix.length) k = ρ1 j) ∨ (restB σ ρ ix ((backR ρ ρ1 σ.length ix.length) k) /\ σ[k]? = some ok /\ k ∉ ix /\ k < σ.length) := by
    intro k ok hk hlk
    rcases hcase k _ hk with ⟨j, o0, h1, rfl, rfl⟩ | ⟨h1, h2, h3⟩
    ·rw [live_ren] at hlk
     exact .inl ⟨j, o0, h1, hlk, hrho j⟩
    ·exact .inr ⟨by rw [hrl k h1]; exact ⟨k, ok, h3, hlk, h2, rfl⟩, h3, h2, h1⟩
   rcases hcase i _ hi with ⟨j, o0, h1, h2, rfl⟩ | ⟨h1, h2, h3⟩
   ·cases o0 with
    | row es' els' =>
     rw [hrho] at hg hne
     obtain ⟨k1, k2⟩ := e3.fam j _ _ _ _ _ _ ms x h1 hg hm hx hne
     have hnr' : ¬ restB σ ρ ix x := by
      rintro ⟨i', o', g1, g2, g3, g4⟩
      have := (hrgone g1 g2 g3).2.1
      obtain ⟨a, q1, _⟩ := live_get h g1 g2
      rw [g4, k1] at this
      rw [g4] at q1
      rw [q1] at this
      cases this
     refine ⟨by rw [backF_not hnr']; exact k1, fun k ok hk hlk => ?_⟩
     rcases few k ok hk hlk with ⟨j', o0, q1, q2, q3⟩ | ⟨q1, _⟩
     ·rw [q3]; exact k2 j' o0 q1 q2
     ·intro e; rw [e] at q1; exact hnr' q1
    | _ => cases h2
   ·rw [hrl i h1] at hg hne
    have hg0 := hg
    rw [(hrgone h3 rfl h2).1] at hg0
    have hxrow : ∀ c' e' f' p', st'.get x = some (.cells c' e' f' p') -> f' = fm := fun c' e' f' p' hx' => e3.wm.mem fm ms x c' e' f' p' hm hx hx'
    have hΦi : Φ1 (ρ i) = some (.cells c e fm p) := by rw [(hrgone h3 rfl h2).2.1]; exact hg0
    have hndead : ∀ {k : Nat} {ok : VObj}, σ[k]? = some ok -> live ok = true -> st.get (ρ k) ≠ some .dead := by
     intro k ok hk hlk e
     have hk := (h.obj k ok hk hlk).1
     cases ok with
     | box cs => rw [hk.1.1] at e; cases e
     | row es els => obtain ⟨⟨_, _, q⟩, _⟩ := hk; rw [q] at e; cases e
     | map es clock => rw [hk.1] at e; cases e
     | loop L => obtain ⟨_, q, _⟩ := hk; rw [q] at e; cases e
     | defl t => have q : st.get (ρ k) = some (.defl t) := hk; rw [q] at e; cases e
     | gone => cases hlk
    have key : Φ1 x = none := by
     cases hq : Φ1 x with
     | none => rfl
     | some o =>
      exfalso
      rcases e3.wm.row fm ms x o hm hx (e3.fz _ _ hq) with e' | ⟨c', e', p', e''⟩
      ·subst e'; exact e3.ndd x hq
      ·subst e''; exact hne (e3.fzd x (ρ i) _ _ _ _ _ _ _ hq hΦi)
    refine ⟨?_, fun k ok hk hlk => ?_⟩
    ·by_cases hr : restB σ ρ ix x
     ·exact backF_rest hr
     ·rw [backF_not hr]; exact key
    ·rcases few k ok hk hlk with ⟨j, o0, q1, q2, q3⟩ | ⟨q1, q2, q3, q4⟩
     ·rw [q3]
      intro e
      subst e
      obtain ⟨a, g1, g2⟩ := live_get e3 q1 q2
      rcases e3.wm.row fm ms _ a hm hx g1 with e' | ⟨c', e', p', e''⟩
      ·subst e'
       have hk' := (e3.obj j o0 q1 q2).1
       cases o0 with
       | box cs => rw [hk'.1.1] at g1; cases g1
       | row es els => obtain ⟨⟨_, _, q⟩, _⟩ := hk'; rw [q] at g1; cases g1
       | map es clock => rw [hk'.1] at g1; cases g1
       | loop L => obtain ⟨_, q, _⟩ := hk'; rw [q] at g1; cases g1
       | defl t => have q : st'.get (ρ1 j) = some (.defl t) := hk'; rw [q] at g1; cases g1
       | gone => cases q2
      ·subst e''
       exact e3.fam_ne q1 (g2 ⟨_, _, _, _, rfl⟩) g1 (e3.fz _ _ hΦi) (fun e => hne e.symm) (.inl (by rw [hΦi]; simp)) rfl
     ·rw [hrl k q4]
      intro e
      subst e
      obtain ⟨a, g1, g2⟩ := live_get h q2 hlk
      have g1' : st'.get (ρ k) = some a := by rw [(hrgone q2 hlk q3).1]; exact g1
      rcases e3.wm.row fm ms _ a hm hx g1' with e' | ⟨c', e', p', e''⟩
      ·subst e'; exact hndead q2 hlk g1
      ·subst e''
       exact h.fam_ne h3 rfl hg0 g1 hne (.inr ⟨k, ok, q2, hlk, rfl⟩) rfl
 refine ⟨n, renCR (emb ix σ.length) r0, ps', st', backF Φ Φ1 σ ρ ix, _, _, ?_, hstp, hreal, ?_, hK r0 σ1 e5 e2.len⟩
 ·rw [hargs, eraseL_ren, e1]
  congr 2
  cases r0 with
  | ret v => simp only [renCR, eraseCR, erase_ren, hfun]
  | pan v => simp only [renCR, eraseCR, erase_ren, hfun]
 ·cases r0 with
  | ret v => exact ok_ren hπ (VOk.dmono hdle e4)
  | pan v => exact ok_ren hπ (VOk.dmono hdle e4)
end
mutual
theorem ren_id : ∀ v : V, ren (fun i => i) v = v
 | .d _ => by simp only [ren]
 | .bp _ _ => by simp only [ren]
 | .ptr _ _ _ _ => by simp only [ren]
 | .fp _ _ _ => by simp only [ren]
 | .ms _ _ _ _ _ => by simp only [ren]
 | .map _ => by simp only [ren]
 | .fn _ a c => by simp only [ren, renL_id a, renL_id c]
 | .yld _ => by simp only [ren]
 | .iface _ v => by simp only [ren, ren_id v]
 | .agg l => by simp only [ren, renL_id l]
 | .tup l => by simp only [ren, renL_id l]
theorem renL_id : ∀ l : List V, renL (fun i => i) l = l
 | [] => by simp only [renL]
 | v :: l => by simp only [renL, ren_id v, renL_id l]
end
section
variable {C : Ctx} {intr : FuncId -> List Value -> Option Value} {Φ Φ' : Fz} {ρ ρ' : Nat -> Nat} {σ : VS} {st : St} {m m' : Nat}
theorem ok_bd {k M : Nat} {v : V} (h : VOk Φ M v) (hb : bd k v = true) : VOk Φ k v := ok_unren (π := fun i => i) (M := M) v (by rw [ren_id]; exact h) hb
theorem oks_bd {k M : Nat} {l : List V} (h : VsOk Φ M l) (hb : bdL k l = true) : VsOk Φ k l := oks_unren (π := fun i => i) (M := M) l (by rw [renL_id]; exact h) hb
theorem renO_id (o : VObj) : renO (fun i => i) o = o := by
 cases o with
 | box cs => simp only [renO, renL_id]
 | row es els => simp only [renO]; congr 1; rw [List.map_congr_left (g := id) (fun e _ => renL_id e), List.map_id]
 | map es c => simp only [renO]; congr 1; rw [List.map_congr_left (g := id) (fun e _ => by simp only [renE, ren_id]; rfl), List.map_id]
 | loop L =>
  simp only [renO]
  have : ∀ tm : Tm, renTm (fun i => i) tm = tm := by
   intro tm
   induction tm with
   | nil => rfl
   | cons x tm ih => obtain ⟨t, v⟩ := x; simp only [renTm, ren_id, ih]
  rw [this]
 | defl t => rfl
 | gone => rfl
def bdS (k : Nat) : VS -> Nat -> Bool
 | _, 0 => true
 | [], _ + 1 => true
 | o :: σ, n + 1 => bdO k o && bdS k σ n
theorem bdS_get : ∀ {σ : VS} {k n : Nat}, bdS k σ n = true -> ∀ {i : Nat} {o : VObj}, i < n -> σ[i]? = some o -> bdO k o = true := by
 intro σ
 induction σ with
 | nil => intro k n _ i o _ h; simp at h
 | cons x σ ih =>
  intro k n hb i o hi h
  cases n with
  | zero => omega
  | succ n =>
   simp only [bdS, Bool.and_eq_true] at hb
   cases i with
   | zero => simp at h; subst h; exact hb.1
   | succ i => exact ih (n := n) hb.2 (Nat.lt_of_succ_lt_succ hi) (by simpa using h)
theorem Real.take (h : Real Φ ρ σ st) {n : Nat} (hn : n <= σ.length) (hb : bdS n σ n = true) : Real Φ ρ (σ.take n) st := by
 have hg : ∀ i o, (σ.take n)[i]? = some o -> i < n /\ σ[i]? = some o := fun i o hi => by
  rw [List.getElem?_take] at hi
  split at hi
  ·rename_i h; exact ⟨h, hi⟩
  ·cases hi
 have hlen : (σ.take n).length = n := by rw [List.length_take]; omega
 refine ⟨h.wf, h.wm, h.fz, h.ndd, h.nof, h.fzd, fun i es els c e f p hi hg' => h.rnf i es els c e f p (hg _ _ hi).2 hg', fun i o hi hl => ?_, fun i j oi oj hi hj => h.inj i j oi oj (hg _ _ hi).2 (hg _ _ hj).2, fun i es els c e f p ms x hi hg' hm hx hne => ?_⟩
 ·obtain ⟨h1, h2⟩ := hg _ _ hi
  obtain ⟨k1, k2⟩ := h.obj i o h2 hl
  refine ⟨?_, k2⟩
  rw [hlen]
  exact OOk.unren (π := fun i => i) (M := σ.length) (by rw [renO_id]; exact k1) (bdS_get hb h1 h2)
 ·obtain ⟨k1, k2⟩ := h.fam i es els c e f p ms x (hg _ _ hi).2 hg' hm hx hne
  exact ⟨k1, fun j o hj hl => k2 j o (hg _ _ hj).2 hl⟩
structure VUpd (m : Nat) (r : VCR) (σ : VS) (K : VCR -> VS -> Prop) : Prop where
 go : ∀ Φ ρ st, Real Φ ρ σ st -> CROk Φ σ.length r -> ∃ r' Φ' ρ' σ', Φ.le Φ' /\ (∀ i, i < m -> ρ' i = ρ i) /\ m <= σ'.length /\ Real Φ' ρ' σ' st /\ CROk Φ' σ'.length r' /\ eraseCR ρ' r' = eraseCR ρ r /\ K r' σ'
theorem VUpd.now {r : VCR} {K : VCR -> VS -> Prop} (hm : Nat.ble m σ.length = true) (hk : K r σ) : VUpd m r σ K :=
 ⟨fun Φ ρ st h hc => ⟨r, Φ, ρ, σ, Fz.le_refl _, fun _ _ => rfl, Nat.le_of_ble_eq_true hm, h, hc, rfl, hk⟩⟩
def bdCR (k : Nat) : VCR -> Bool
 | .ret v => bd k v
 | .pan v => bd k v
theorem VUpd.drop (n : Nat) {r : VCR} {K : VCR -> VS -> Prop} (hn : Nat.ble n σ.length = true) (hb : bdS n σ n = true) (hr : bdCR n r = true) (hk : VUpd m r (σ.take n) K) : VUpd m r σ K := by
 refine ⟨fun Φ ρ st h hc => ?_⟩
 have hn := Nat.le_of_ble_eq_true hn
 have hlen : (σ.take n).length = n := by rw [List.length_take]; omega
 refine hk.go Φ ρ st (h.take hn hb) ?_
 rw [hlen]
 cases r with
 | ret v => exact ok_bd (M := σ.length) hc hr
 | pan v => exact ok_bd (M := σ.length) hc hr
mutual
def fzV (i b : Nat) (l : List (List D)) : V -> V
 | .ms j es k len cap => match Nat.beq j i with
  | true => .d (.ps b (k * es) es cap ((l.drop k).take len))
  | false => .ms j es k len cap
 | .fn f a c => .fn f (fzL i b l a) (fzL i b l c)
 | .iface t v => .iface t (fzV i b l v)
 | .agg vs => .agg (fzL i b l vs)
 | .tup vs => .tup (fzL i b l vs)
 | v => v
def fzL (i b : Nat) (l : List (List D)) : List V -> List V
 | [] => []
 | v :: vs => fzV i b l v :: fzL i b l vs
end
mutual
def fzOk (i es0 n : Nat) : V -> Prop
 | .ms j es k len _ => j = i -> es = es0 /\ k + len <= n
 | .fn _ a c => fzOkL i es0 n a /\ fzOkL i es0 n c
 | .iface _ v => fzOk i es0 n v
 | .agg vs => fzOkL i es0 n vs
 | .tup vs => fzOkL i es0 n vs
 | _ => True
def fzOkL (i es0 n : Nat) : List V -> Prop
 | [] => True
 | v :: vs => fzOk i es0 n v /\ fzOkL i es0 n vs
end
section
variable {i b es0 : Nat} {l : List (List D)} {f p M : Nat}
mutual
theorem fzV_sound (hb : b = ρ i) (hΦ : Φ b = some (.cells (l.flatten.map eraseD) es0 f p)) (hd : Φ.dat b) (hl : ∀ e ∈ l, e.length = es0) (hs : ∀ e ∈ l, ∀ d ∈ e, DOk Φ d) :
  ∀ v : V, VOk Φ M v -> fzOk i es0 l.length v -> VOk Φ M (fzV i b l v) /\ erase ρ (fzV i b l v) = erase ρ v
 | .ms j es k len cap, hv, ho => by
  simp only [fzOk] at ho
  unfold fzV
  split
  ·rename_i hj
   have := Nat.eq_of_beq_eq_true hj
   subst this
   obtain ⟨rfl, hlen⟩ := ho rfl
   have hll : ((l.drop k).take len).length = len := by rw [List.length_take, List.length_drop]; omega
   refine ⟨.d (.ps hΦ (fun e he => hl e (List.mem_of_mem_drop (List.mem_of_mem_take he))) ?_ ?_ (fun e he => hs e (List.mem_of_mem_drop (List.mem_of_mem_take he))) hd), ?_⟩
   ·rw [hll, List.length_map, flat_len hl, <- Nat.add_mul]; exact Nat.mul_le_mul_right _ hlen
   ·rw [hll, <- List.map_drop, <- List.map_take, flat_sub hl]
   ·simp only [erase, eraseD, hll, hb]
  ·exact ⟨hv, rfl⟩
 | .fn f' a c, hv, ho => by
  simp only [fzOk] at ho
  simp only [fzV]
  cases hv with
  | fn h1 h2 =>
   obtain ⟨x1, x2⟩ := fzL_sound hb hΦ hd hl hs a h1 ho.1
   obtain ⟨y1, y2⟩ := fzL_sound hb hΦ hd hl hs c h2 ho.2
   exact ⟨.fn x1 y1, by simp only [erase, x2, y2]⟩
 | .iface t v, hv, ho => by
  simp only [fzOk] at ho
  simp only [fzV]
  cases hv with
  | iface h1 =>
   obtain ⟨x1, x2⟩ := fzV_sound hb hΦ hd hl hs v h1 ho
   exact ⟨.iface x1, by simp only [erase, x2]⟩
 | .agg vs, hv, ho => by
  simp only [fzOk] at ho
  simp only [fzV]
  cases hv with
  | agg h1 =>
   obtain ⟨x1, x2⟩ := fzL_sound hb hΦ hd hl hs vs h1 ho
   exact ⟨.agg x1, by simp only [erase, x2]⟩
 | .tup vs, hv, ho => by
  simp only [fzOk] at ho
  simp only [fzV]
  cases hv with
  | tup h1 =>
   obtain ⟨x1, x2⟩ := fzL_sound hb hΦ hd hl hs vs h1 ho
   exact ⟨.tup x1, by simp only [erase, x2]⟩
 | .d _, hv, _ => by simp only [fzV]; exact ⟨hv, trivial⟩
 | .bp _ _, hv, _ => by simp only [fzV]; exact ⟨hv, trivial⟩
 | .ptr _ _ _ _, hv, _ => by simp only [fzV]; exact ⟨hv, trivial⟩
 | .fp _ _ _, hv, _ => by simp only [fzV]; exact ⟨hv, trivial⟩
 | .map _, hv, _ => by simp only [fzV]; exact ⟨hv, trivial⟩
 | .yld _, hv, _ => by simp only [fzV]; exact ⟨hv, trivial⟩
theorem fzL_sound (hb : b = ρ i) (hΦ : Φ b = some (.cells (l.flatten.map eraseD) es0 f p)) (hd : Φ.dat b) (hl : ∀ e ∈ l, e.length = es0) (hs : ∀ e ∈ l, ∀ d ∈ e, DOk Φ d) :
  ∀ vs : List V, VsOk Φ M vs -> fzOkL i es0 l.length vs -> VsOk Φ M (fzL i b l vs) /\ eraseL ρ (fzL i b l vs) = eraseL ρ vs
 | [], _, _ => ⟨fun _ h => by simp [fzL] at h, by simp only [fzL]⟩
 | v :: vs, hv, ho => by
  simp only [fzOkL] at ho
  obtain ⟨x1, x2⟩ := fzV_sound hb hΦ hd hl hs v (hv v (List.mem_cons_self ..)) ho.1
  obtain ⟨y1, y2⟩ := fzL_sound hb hΦ hd hl hs vs (fun x hx => hv x (List.mem_cons_of_mem _ hx)) ho.2
  simp only [fzL]
  refine ⟨fun x hx => ?_, by simp only [eraseL, x2, y2]⟩
  rcases List.mem_cons.1 hx with e | hx
  ·rw [e]; exact x1
  ·exact y1 x hx
end
end
def fzCR (i b : Nat) (l : List (List D)) : VCR -> VCR
 | .ret v => .ret (fzV i b l v)
 | .pan v => .pan (fzV i b l v)
def fzOkCR (i es0 n : Nat) : VCR -> Prop
 | .ret v => fzOk i es0 n v
 | .pan v => fzOk i es0 n v
theorem VUpd.freeze (i : Nat) {r : VCR} {K : VCR -> VS -> Prop} {es : Nat} {els : List (List V)} {l : List (List D)} (hi : nth σ i = some (.row es els)) (hl : drows els = some l) (ho : fzOkCR i es l.length r)
  (hk : ∀ b, VUpd m (fzCR i b l r) (σ.set i .gone) K) : VUpd m r σ K := by
 refine ⟨fun Φ ρ st h hc => ?_⟩
 rw [nth_eq] at hi
 obtain ⟨hels, f, p, hg⟩ := obj_els h hi
 have hn := (h.obj i _ hi rfl).2
 have hcs : eraseL ρ els.flatten = l.flatten.map eraseD := by rw [drows_eq hl, flat_d]
 rw [hcs] at hg
 have hr := h.freeze hi hg
 have hle := addF_le (o := AObj.cells (l.flatten.map eraseD) es f p) hn
 rw [drows_eq hl] at hels
 obtain ⟨d1, d2⟩ := hels.d
 have d2' : ∀ e ∈ l, ∀ d ∈ e, DOk (addF Φ (ρ i) (.cells (l.flatten.map eraseD) es f p)) d := fun e he d hd => (d2 e he d hd).mono hle
 have hlen : (σ.set i .gone).length = σ.length := List.length_set
 have hv : ∀ v, VOk Φ σ.length v -> fzOk i es l.length v -> VOk (addF Φ (ρ i) (.cells (l.flatten.map eraseD) es f p)) σ.length (fzV i (ρ i) l v) /\ erase ρ (fzV i (ρ i) l v) = erase ρ v :=
  fun v h1 h2 => fzV_sound (Φ := addF Φ (ρ i) (.cells (l.flatten.map eraseD) es f p)) (f := f) (p := p) rfl (by rw [addF_at]; exact if_pos rfl) (Or.inl rfl) d1 d2' v (h1.mono hle (Nat.le_refl _)) h2
 have hfin : CROk (addF Φ (ρ i) (.cells (l.flatten.map eraseD) es f p)) (σ.set i .gone).length (fzCR i (ρ i) l r) /\ eraseCR ρ (fzCR i (ρ i) l r) = eraseCR ρ r := by
  rw [hlen]
  cases r with
  | ret v => obtain ⟨a, b⟩ := hv v hc ho; exact ⟨a, by simp only [fzCR, eraseCR, b]⟩
  | pan v => obtain ⟨a, b⟩ := hv v hc ho; exact ⟨a, by simp only [fzCR, eraseCR, b]⟩
 obtain ⟨r', Φ', ρ', σ', e1, e2, e3, e4, e5, e6, e7⟩ := (hk (ρ i)).go _ ρ st hr hfin.1
 exact ⟨r', Φ', ρ', σ', hle.trans e1, e2, e3, e4, e5, by rw [e6]; exact hfin.2, e7⟩
theorem VCall.b1 (fz : Nat -> Bool) {f : FuncId} {args : List V} {K : VCR -> VS -> Prop} (hi : ∀ l, intr f l = none) (hk : vbody C intr fz f args false .none σ fun r _ σ' => VUpd σ.length r σ' K) : VCall C intr f args σ K := by
 refine ⟨fun Φ ρ st h ha => ?_⟩
 obtain ⟨n, r, ps', Φ', ρ', σ', st', e1, e2, e3, e4, _, e5⟩ := vbody_sound hk h ha trivial
 obtain ⟨r', Φ2, ρ2, σ2, g1, g2, g3, g4, g5, g6, g7⟩ := e5.go Φ' ρ' st' e3 e4
 refine ⟨n + 1, r', erasePs ρ' ps', st', Φ2, ρ2, σ2, ?_, ⟨e2.le.trans g1, fun i hi => (g2 i hi).trans (e2.rho i hi), g3⟩, g4, g5, g7⟩
 simp only [recN, hi]
 rw [g6]
 exact e1
def bdDf (k : Nat) : List VDef -> Bool
 | [] => true
 | ⟨.coll r, args⟩ :: l => Nat.blt r k && bdL k args && bdDf k l
 | ⟨.fn _ c, args⟩ :: l => bdL k c && bdL k args && bdDf k l
theorem bdDf_ok {k M : Nat} : ∀ {l : List VDef}, bdDf k l = true -> (∀ d ∈ l, DfOk Φ M d) -> ∀ d ∈ l, DfOk Φ k d := by
 intro l
 induction l with
 | nil => intro _ _ d h; simp at h
 | cons x l ih =>
  intro hb h d hd
  obtain ⟨t, args⟩ := x
  have hx := h _ (List.mem_cons_self ..)
  cases t with
  | coll r =>
   simp only [bdDf, Bool.and_eq_true] at hb
   rcases List.mem_cons.1 hd with rfl | hd
   ·exact ⟨blt_lt hb.1.1, oks_bd hx.2 hb.1.2⟩
   ·exact ih hb.2 (fun d hd => h d (List.mem_cons_of_mem _ hd)) d hd
  | fn f c =>
   simp only [bdDf, Bool.and_eq_true] at hb
   rcases List.mem_cons.1 hd with rfl | hd
   ·exact ⟨oks_bd (show VsOk Φ M c from hx.1) hb.1.1, oks_bd hx.2 hb.1.2⟩
   ·exact ih hb.2 (fun d hd => h d (List.mem_cons_of_mem _ hd)) d hd
def bdPs (k : Nat) : VPs -> Bool
 | .pend v => bd k v
 | _ => true
theorem VCode.drop (n : Nat) {fc : VFC} {c : Code} {tm tm0 : Tm} {df : List VDef} {ps : VPs} {Q : VEx -> Tm -> List VDef -> VPs -> VS -> Prop} (hs : subTm tm0 tm) (hn : Nat.ble n σ.length = true) (hfl : Nat.ble fc.fl n = true) (hb : bdS n σ n = true) (ht : bdTm n tm0 = true) (hdf : bdDf n df = true) (hps : bdPs n ps = true)
  (h : VCode C intr fc c tm0 df ps (σ.take n) Q) : VCode C intr fc c tm df ps σ Q := by
 refine ⟨fun Φ ρ st fr hr htm hd hp hf => ?_⟩
 have hn := Nat.le_of_ble_eq_true hn
 have hlen : (σ.take n).length = n := by rw [List.length_take]; omega
 refine h.go Φ ρ st fr (hr.take hn hb) (fun t v hv => ?_) ⟨hd.1, ?_⟩ ?_ ⟨hf.1, by rw [hlen]; exact Nat.le_of_ble_eq_true hfl⟩
 ·obtain ⟨a, b⟩ := htm t v (subTm_look hs t v hv)
  rw [hlen]
  exact ⟨a, ok_bd b (bdTm_look ht hv)⟩
 ·rw [hlen]; exact bdDf_ok hdf hd.2
 ·rw [hlen]
  cases ps with
  | pend v => exact ok_bd (M := σ.length) hp hps
  | none => trivial
  | recd => trivial
theorem vsetParams_sound : ∀ (ts : List Tmp) (vs : List V) (nt : Nat) {tm : Tm} {t : Tr Value} {k : Tm -> Prop}, vsetParams ts vs nt tm k -> TmRel Φ ρ m tm t -> VsOk Φ m vs -> ∃ tm' t', k tm' /\ setParams ts (eraseL ρ vs) nt t = some t' /\ TmRel Φ ρ m tm' t' := by
 intro ts
 induction ts with
 | nil =>
  intro vs nt tm t k hk ht hv
  cases vs with
  | nil => exact ⟨tm, t, hk, rfl, ht⟩
  | cons _ _ => exact hk.elim
 | cons x ts ih =>
  intro vs nt tm t k hk ht hv
  cases vs with
  | nil => exact hk.elim
  | cons v vs =>
   unfold vsetParams at hk
   split at hk
   ·rename_i hb
    obtain ⟨tm', t', h1, h2, h3⟩ := ih vs nt hk (ht.set (hv v (by simp))) (fun y hy => hv y (by simp [hy]))
    exact ⟨tm', t', h1, by simp only [setParams, eraseL, hb]; exact h2, h3⟩
   ·exact hk.elim
theorem vroundEnd_sound {l : Nat} {b : Bool} {s : LoopState} {pend : Option Code} {df : List VDef} {K : VCR -> VS -> Prop} (hk : vroundEnd l b s pend df σ K) (h : Real Φ ρ σ st) {df' : List Deferred} (hd : DfRel Φ ρ σ.length df df') :
  ∃ al σ', st.get (ρ l) = some (.loop al) /\ df' = [] /\ K (.ret (.d (.bool b))) σ' /\ σ'.length = σ.length /\ Real Φ ρ σ' (st.put (ρ l) (.loop { al with state := s, pending := pend })) := by
 unfold vroundEnd at hk
 split at hk
 ·rename_i L hL
  rw [nth_eq] at hL
  obtain ⟨⟨al, hal, hlo⟩, _⟩ := h.obj l _ hL rfl
  obtain ⟨_, hk⟩ := vset_elim _ _ _ _ hk
  refine ⟨al, _, hal, hd.1, hk, set_len _ _, h.put hL rfl rfl rfl (fun _ _ _ _ e => by cases e) ⟨{ al with state := s, pending := pend }, by rw [St.get_put, if_pos rfl], ⟨rfl, rfl, hlo.fn, hlo.tm, hlo.nt, hlo.params, hlo.assign, hlo.body, hlo.defers, hlo.dlt⟩⟩⟩
 ·exact hk.elim
theorem VRound.intro {l : Nat} {args : List V} {K : VCR -> VS -> Prop} (hk : vround C intr l args σ K) : VRound C intr l args σ K := by
 refine ⟨fun Φ ρ st h ha hl => ?_⟩
 unfold vround vroundN at hk
 split at hk
 ·rename_i L hL
  rw [nth_eq] at hL
  obtain ⟨⟨al, hal, hlo⟩, _⟩ := h.obj l _ hL rfl
  split at hk
  ·exact hk.elim
  ·rename_i fi hfi
   obtain ⟨tm, t, hk, hset, htm⟩ := vsetParams_sound L.params args L.nt hk hlo.tm ha
   have hfc : FcOk σ.length ⟨L.fn, L.nt, some l, false, L.fz, σ.length⟩ := ⟨fun l' e => by cases e; exact hl, Nat.le_refl _⟩
   obtain ⟨n1, r1, c1, Φ1, ρ1, σ1, st1, x1, tm1, df1, ps1, fr1, k1, k2, k3, k4, rfl⟩ := vc_sound L.assign hk (fr := ⟨t, []⟩) ⟨h, htm, ⟨rfl, fun _ h => by simp at h⟩, trivial⟩ hfc
   cases x1 with
   | norm =>
    simp only at k1
    split at k1
    ·rename_i L1 hL1
     rw [nth_eq] at hL1
     obtain ⟨⟨al1, hal1, hlo1⟩, _⟩ := k3.real.obj l _ hL1 rfl
     split at k1
     ·rename_i hready
      obtain ⟨_, k1⟩ := vset_elim _ _ _ _ k1
      have hrl : ρ1 l = ρ l := k2.rho l hl
      have hput := k3.real.put (o' := .loop { L1 with state := .busy }) (a := .loop { al1 with state := .busy }) hL1 rfl rfl rfl (fun _ _ _ _ e => by cases e)
       ⟨{ al1 with state := .busy }, by rw [St.get_put, if_pos rfl], ⟨rfl, hlo1.pending, hlo1.fn, hlo1.tm, hlo1.nt, hlo1.params, hlo1.assign, hlo1.body, hlo1.defers, hlo1.dlt⟩⟩
      have hsr : SR Φ1 ρ1 (σ1.set l (.loop { L1 with state := .busy })) (st1.put (ρ1 l) (.loop { al1 with state := .busy })) tm1 df1 .none fr1 := ⟨hput, by rw [set_len]; exact k3.tm, by rw [set_len]; exact k3.df, trivial⟩
      have hfc1 := (k2.fcl hfc)
      obtain ⟨n2, r2, c2, Φ2, ρ2, σ2, st2, x2, tm2, df2, ps2, fr2, q1, q2, q3, q4, rfl⟩ := vc_sound L.body k1 hsr (by rw [set_len]; exact hfc1.2)
      rw [hfc1.1] at c2
      have hrl2 : ρ2 l = ρ l := (q2.rho l hl).trans hrl
      have hst : Stp Φ ρ σ.length Φ2 ρ2 σ2.length := k2.then q2 (Nat.le_refl _)
      have c1' := code_mono (recN_le (C := C) (intr := intr) (Nat.le_max_left n1 n2)) _ c1
      have c2' := code_mono (recN_le (C := C) (intr := intr) (Nat.le_max_right n1 n2)) _ c2
      have hfc0 : eraseFC ρ ⟨L.fn, L.nt, some l, false, L.fz, σ.length⟩ = ⟨al.fn, al.nt, some (ρ l), false⟩ := by rw [hlo.fn, hlo.nt]; rfl
      rw [hfc0] at c1' c2'
      rw [hrl] at c2' hal1
      have e1 : L.assign = al.assign := hlo.assign.symm
      have e2 : L.body = al.body := hlo.body.symm
      rw [e1] at c1'
      rw [e2] at c2'
      have hset' : setParams al.params (eraseL ρ args) al.nt al.tm = some t := by rw [hlo.params, hlo.nt]; exact hset
      have hfi' : C.ff.get al.fn = some fi := by rw [hlo.fn]; exact hfi
      have hst1 : al1.state = .ready := by rw [hlo1.state]; exact hready
      have red : ∀ R, (match (generalizing := false) eraseEx ρ2 x2, fr2, st2 with
        | .norm, fr, st => match st.get (ρ l), fr.df with
         | some (.loop al), [] => some (CR.ret (.bool true), st.put (ρ l) (.loop { al with state := .ready, pending := none }))
         | _, _ => none
        | .ret, fr, st => match st.get (ρ l), fr.df with
         | some (.loop al), [] => some (.ret (.bool false), st.put (ρ l) (.loop { al with state := .done, pending := some .ret }))
         | _, _ => none
        | .exit id, fr, st => match st.get (ρ l), fr.df with
         | some (.loop al), [] => some (.ret (.bool false), st.put (ρ l) (.loop { al with state := .done, pending := some (.exit id) }))
         | _, _ => none
        | .panic v, fr, st => match fr.df with
         | [] => some (.pan v, st)
         | _ => none) = some R -> (recN C intr (max n1 n2 + 1)).round (ρ l) (eraseL ρ args) st = some R := by
       intro R hR
       show roundF C (recN C intr (max n1 n2)) (ρ l) (eraseL ρ args) st = some R
       unfold roundF
       simp only [erasePs, eraseEx] at c1'
       simp only [erasePs] at c2'
       simp only [hal, hfi', hset', c1', hal1, hst1, c2']
       cases x2 <;> simp only [eraseEx] at hR ⊢ <;> exact hR
      cases x2 with
      | norm =>
       obtain ⟨al2, σ3, g1, g2, g3, g4, g5⟩ := vroundEnd_sound q1 q3.real q3.df
       rw [hrl2] at g1 g5
       exact ⟨_, .ret (.d (.bool true)), _, Φ2, ρ2, σ3, red _ (by simp only [eraseEx, g1, g2]; rfl), by rw [g4]; exact hst, g5, .d (.bool _), g3⟩
      | ret =>
       obtain ⟨al2, σ3, g1, g2, g3, g4, g5⟩ := vroundEnd_sound q1 q3.real q3.df
       rw [hrl2] at g1 g5
       exact ⟨_, .ret (.d (.bool false)), _, Φ2, ρ2, σ3, red _ (by simp only [eraseEx, g1, g2]; rfl), by rw [g4]; exact hst, g5, .d (.bool _), g3⟩
      | exit id =>
       obtain ⟨al2, σ3, g1, g2, g3, g4, g5⟩ := vroundEnd_sound q1 q3.real q3.df
       rw [hrl2] at g1 g5
       exact ⟨_, .ret (.d (.bool false)), _, Φ2, ρ2, σ3, red _ (by simp only [eraseEx, g1, g2]; rfl), by rw [g4]; exact hst, g5, .d (.bool _), g3⟩
      | panic v =>
       simp only at q1
       cases df2 with
       | nil =>
        have hdf : fr2.df = [] := q3.df.1
        exact ⟨_, .pan v, st2, Φ2, ρ2, σ2, red _ (by simp only [eraseEx, hdf]; rfl), hst, q3.real, q4, q1⟩
       | cons _ _ => exact q1.elim
     ·exact k1.elim
    ·exact k1.elim
   | _ => exact k1.elim
 ·exact hk.elim
theorem VCall.run {f : FuncId} {args : List D} {K : VCR -> VS -> Prop} (h : VCall C intr f (args.map V.d) [] K) (ha : ∀ Φ, ∀ d ∈ args, DOk Φ d) :
  ∃ n r ps' st' ρ' σ', (recN C intr n).call f (args.map eraseD) false .none ⟨.nil, 0, .nil⟩ = some (eraseCR ρ' r, ps', st') /\ K r σ' := by
 have hnil : ∀ x, (⟨.nil, 0, .nil⟩ : St).get x = none := fun x => Tr.get_nil x
 have hfn : ∀ x, (⟨.nil, 0, .nil⟩ : St).fm.get x = none := fun x => Tr.get_nil x
 have hr : Real ⟨fun _ => none, fun _ => False, fun _ => False⟩ (fun _ => 0) [] ⟨.nil, 0, .nil⟩ := by
  refine ⟨⟨fun b o h => ?_, fun b c e f p h => ?_, fun f ms h => ?_⟩, ⟨fun f ms x h => ?_, fun f ms x o h => ?_⟩, fun b o h => (by cases h), fun b h => (by cases h), fun f h => h.elim, fun x y _ _ _ _ _ _ _ h => (by cases h), fun i _ _ _ _ _ _ h => (by simp at h), fun i o h => (by simp at h), fun i j oi oj h => (by simp at h), fun i _ _ _ _ _ _ _ _ h => (by simp at h)⟩
  ·rw [hnil] at h; cases h
  ·rw [hnil] at h; cases h
  ·rw [hfn] at h; cases h
  ·rw [hfn] at h; cases h
  ·rw [hfn] at h; cases h
 obtain ⟨n, r, ps', st', Φ', ρ', σ', e1, _, _, _, e5⟩ := h.go _ _ _ hr (fun v hv => by obtain ⟨d, hd, rfl⟩ := List.mem_map.1 hv; exact .d (ha _ d hd))
 rw [eraseL_d] at e1
 exact ⟨n, r, ps', st', ρ', σ', e1, e5⟩
end
def nofz : Nat -> Bool := fun _ => false
theorem vci {b : Bool} {p q : Prop} (h1 : b = true -> p) (h2 : b = false -> q) : vcond p q b := by
 cases b
 ·exact h2 rfl
 ·exact h1 rfl
theorem vcp {b : Bool} {p q : Prop} (h : b = true) (h1 : p) : vcond p q b := by rw [h]; exact h1
theorem vcn {b : Bool} {p q : Prop} (h : b = false) (h1 : q) : vcond p q b := by rw [h]; exact h1
theorem vni {p k : Prop} (h : p) (h1 : k) : vneed p k := ⟨h, h1⟩
theorem vnf {n : Int} {m : Nat} {k : Nat -> Prop} (h : n = Int.ofNat m) (hk : k m) : vnat n k := ⟨m, h, hk⟩
theorem exf {α : Type} {p : α -> Prop} {q : α -> Prop} (a : α) (h : p a) (h1 : q a) : ∃ a, p a /\ q a := ⟨a, h, h1⟩
theorem ex3_of {α : Type} {p q r : α -> Prop} (a : α) (h : p a) (h1 : q a) (h2 : r a) : ∃ a, p a /\ q a /\ r a := ⟨a, h, h1, h2⟩
theorem ret_of {K : VCR -> VS -> Prop} {v w : V} {σ : VS} (e : v = w) (h : K (.ret w) σ) : K (.ret v) σ := e ▸ h
theorem retb_of {K : VCR -> VS -> Prop} {v w : Bool} {σ : VS} (e : v = w) (h : K (.ret (boolV w)) σ) : K (.ret (boolV v)) σ := e ▸ h
theorem reti_of {K : VCR -> VS -> Prop} {k : IntKind} {v w : Int} {σ : VS} (e : v = w) (h : K (.ret (.d (.int k w))) σ) : K (.ret (.d (.int k v))) σ := e ▸ h
theorem rets_of {K : VCR -> VS -> Prop} {v w : List UInt8} {σ : VS} (e : v = w) (h : K (.ret (.d (.str w))) σ) : K (.ret (.d (.str v))) σ := e ▸ h
def intV (n : Nat) : V := .d (.int .i64 (Int.ofNat n))
def strV (s : List UInt8) : V := .d (.str s)
theorem int_eq {k : IntKind} {a b : Int} (h : a = b) : some (V.d (.int k a)) = some (V.d (.int k b)) := by rw [h]
theorem str_eq {a b : List UInt8} (h : a = b) : some (V.d (.str a)) = some (V.d (.str b)) := by rw [h]
theorem wrap64 {n : Int} (h0 : -9223372036854775808 <= n) (h1 : n < 9223372036854775808) : IntKind.i64.wrap n = n := by
 unfold IntKind.wrap
 simp only [IntKind.signed, IntKind.bits]
 first
  | (show (if _ then _ else _) = _; split <;> omega)
  | (simp; omega)
theorem wrap_add {a b : Nat} (h : a + b < 9223372036854775808) : IntKind.i64.wrap (Int.ofNat a + Int.ofNat b) = Int.ofNat (a + b) := by
 simp only [Int.ofNat_eq_natCast]
 rw [wrap64 (by omega) (by omega)]
 omega
theorem wrap_succ {a : Nat} (h : a < 9223372036854775807) : IntKind.i64.wrap (Int.ofNat a + 1) = Int.ofNat (a + 1) := wrap_add (b := 1) (by omega)
theorem dle {a b : Nat} (h : decide (Int.ofNat a <= Int.ofNat b) = true) : a <= b := by
 have := of_decide_eq_true h
 simp only [Int.ofNat_eq_natCast] at this; omega
theorem dlt {a b : Nat} (h : decide (Int.ofNat a < Int.ofNat b) = true) : a < b := by
 have := of_decide_eq_true h
 simp only [Int.ofNat_eq_natCast] at this; omega
theorem deq {a b : Nat} (h : decide (Int.ofNat a = Int.ofNat b) = true) : a = b := by
 have := of_decide_eq_true h
 simp only [Int.ofNat_eq_natCast] at this; omega
theorem dnle {a b : Nat} (h : decide (Int.ofNat a <= Int.ofNat b) = false) : b < a := by
 have := of_decide_eq_false h
 simp only [Int.ofNat_eq_natCast] at this; omega
theorem dnlt {a b : Nat} (h : decide (Int.ofNat a < Int.ofNat b) = false) : b <= a := by
 have := of_decide_eq_false h
 simp only [Int.ofNat_eq_natCast] at this; omega
theorem dneq {a b : Nat} (h : decide (Int.ofNat a = Int.ofNat b) = false) : a ≠ b := by
 have := of_decide_eq_false h
 simp only [Int.ofNat_eq_natCast] at this; omega
section
variable {C : Ctx} {intr : FuncId -> List Value -> Option Value}
def idPre : Nat -> List Nat -> Nat -> Bool
 | 0, _, _ => true
 | _ + 1, [], _ => false
 | p + 1, i :: ix, j => Nat.beq i j && idPre p ix (j + 1)
theorem idPre_get : ∀ {p : Nat} {ix : List Nat} {j k : Nat}, idPre p ix j = true -> k < p -> ix[k]? = some (j + k) := by
 intro p
 induction p with
 | zero => intro ix j k _ h; omega
 | succ p ih =>
  intro ix j k h hk
  cases ix with
  | nil => cases h
  | cons i ix =>
   simp only [idPre, Bool.and_eq_true] at h
   cases k with
   | zero => simp [Nat.eq_of_beq_eq_true h.1]
   | succ k =>
    have := ih h.2 (Nat.lt_of_succ_lt_succ hk)
    simp only [List.getElem?_cons_succ, this]
    congr 1
    omega
def pickOk (π : Nat -> Nat) (k : Nat) (σ : VS) : List Nat -> VS -> Prop
 | [], [] => True
 | i :: ix, o :: σ0 => nth σ i = some (renO π o) /\ bdO k o = true /\ pickOk π k σ ix σ0
 | _, _ => False
theorem pickOk_get {π : Nat -> Nat} {k : Nat} {σ : VS} : ∀ {ix : List Nat} {σ0 : VS}, pickOk π k σ ix σ0 -> ix.length = σ0.length /\ ∀ (j : Nat) (o : VObj), σ0[j]? = some o -> ∃ i, ix[j]? = some i /\ σ[i]? = some (renO π o) /\ bdO k o = true := by
 intro ix
 induction ix with
 | nil =>
  intro σ0 h
  cases σ0 with
  | nil => exact ⟨rfl, fun j o hj => by simp at hj⟩
  | cons _ _ => exact h.elim
 | cons i ix ih =>
  intro σ0 h
  cases σ0 with
  | nil => exact h.elim
  | cons o σ0 =>
   obtain ⟨h1, h2, h3⟩ := h
   obtain ⟨i1, i2⟩ := ih h3
   refine ⟨by simp [i1], fun j o' hj => ?_⟩
   cases j with
   | zero => simp at hj; subst hj; exact ⟨i, rfl, by rw [<- nth_eq]; exact h1, h2⟩
   | succ j => obtain ⟨i', a, b, c⟩ := i2 j o' (by simpa using hj); exact ⟨i', by simpa using a, b, c⟩
theorem Real.pick {Φ : Fz} {ρ : Nat -> Nat} {σ σ0 : VS} {st : St} {ix : List Nat} (h : Real Φ ρ σ st) (hnd : ix.Nodup) (hp : pickOk (emb ix σ.length) σ0.length σ ix σ0) : Real Φ (fun j => ρ (emb ix σ.length j)) σ0 st := by
 obtain ⟨hl, hg⟩ := pickOk_get hp
 have hrho : ∀ {j i : Nat}, ix[j]? = some i -> ρ (emb ix σ.length j) = ρ i := fun {j i} hj => by rw [emb_at hj]
 refine ⟨h.wf, h.wm, h.fz, h.ndd, h.nof, h.fzd, fun j es els c e f p hj hgt => ?_, fun j o hj hlv => ?_, fun j k oj ok hj hk hlj hlk e => ?_, fun j es els c e f p ms x hj hgt hm hx hne => ?_⟩
 ·obtain ⟨i, a, b, _⟩ := hg j _ hj
  rw [hrho a] at hgt
  exact h.rnf i _ _ _ _ _ _ b hgt
 ·obtain ⟨i, a, b, c⟩ := hg j _ hj
  obtain ⟨k1, k2⟩ := h.obj i _ b (by rw [live_ren]; exact hlv)
  rw [hrho a]
  exact ⟨k1.unren c, k2⟩
 ·obtain ⟨i, a, b, _⟩ := hg j _ hj
  obtain ⟨i', a', b', _⟩ := hg k _ hk
  rw [hrho a, hrho a'] at e
  have := h.inj i i' _ _ b b' (by rw [live_ren]; exact hlj) (by rw [live_ren]; exact hlk) e
  subst this
  obtain ⟨x, hx⟩ := List.getElem?_eq_some_iff.1 a
  obtain ⟨y, hy⟩ := List.getElem?_eq_some_iff.1 a'
  have hpw := List.pairwise_iff_getElem.1 hnd
  rcases Nat.lt_trichotomy j k with hjk | hjk | hjk
  ·exact absurd (hx.trans hy.symm) (hpw j k x y hjk)
  ·exact hjk
  ·exact absurd (hy.trans hx.symm) (hpw k j y x hjk)
 ·obtain ⟨i, a, b, _⟩ := hg j _ hj
  rw [hrho a] at hgt hne
  obtain ⟨k1, k2⟩ := h.fam i _ _ _ _ _ _ ms x b hgt hm hx hne
  refine ⟨k1, fun j' o' hj' hl' => ?_⟩
  obtain ⟨i', a', b', _⟩ := hg j' _ hj'
  show ρ (emb ix σ.length j') ≠ x
  rw [hrho a']
  exact k2 i' _ b' (by rw [live_ren]; exact hl')
theorem VCode.pick (p : Nat) (ix : List Nat) {fc : VFC} {c : Code} {tm tm0 : Tm} {σ σ0 : VS} {df : List VDef} {ps : VPs} {Q : VEx -> Tm -> List VDef -> VPs -> VS -> Prop} (hs : subTm (renTm (emb ix σ.length) tm0) tm) (hbt : bdTm σ0.length tm0 = true) (hfl : Nat.ble fc.fl p = true) (hid : idPre p ix 0 = true)
  (hdf : bdDf p df = true) (hps : bdPs p ps = true) (hnd : ix.Nodup) (hp : pickOk (emb ix σ.length) σ0.length σ ix σ0) (h : VCode C intr fc c tm0 df ps σ0 Q) : VCode C intr fc c tm df ps σ Q := by
 refine ⟨fun Φ ρ st fr hr htm hd hpo hf => ?_⟩
 obtain ⟨hl, _⟩ := pickOk_get hp
 have hfl := Nat.le_of_ble_eq_true hfl
 have hemb : ∀ j, j < p -> emb ix σ.length j = j := fun j hj => by
  have := idPre_get hid hj
  rw [emb_at this]; omega
 have hpl : p <= σ0.length := by
  rcases Nat.lt_or_ge σ0.length p with h1 | h1
  ·have := idPre_get hid h1
   rw [<- hl, List.getElem?_eq_none (Nat.le_refl _)] at this
   cases this
  ·exact h1
 have hstp : Stp Φ ρ p Φ (fun j => ρ (emb ix σ.length j)) σ0.length := ⟨Fz.le_refl _, fun i hi => by show ρ (emb ix σ.length i) = _; rw [hemb i hi], hpl⟩
 have hdf0 := bdDf_ok hdf hd.2
 have hps0 : PsOk Φ p ps := by
  cases ps with
  | pend v => exact ok_bd (M := σ.length) hpo hps
  | none => trivial
  | recd => trivial
 have hfc : eraseFC (fun j => ρ (emb ix σ.length j)) fc = eraseFC ρ fc := ((hstp.weaken hfl).fcl (m := σ.length) hf).1
 obtain ⟨n, x, fr', tm', df', ps', st', Φ', ρ', σ', e1, e2, e3, e4, e5, e6, e7, e8⟩ := h.go Φ (fun j => ρ (emb ix σ.length j)) st fr (hr.pick hnd hp) (fun t v hv => by
   obtain ⟨a, b⟩ := htm t (ren (emb ix σ.length) v) (subTm_look hs t _ (by rw [renTm_look, hv]; rfl))
   rw [erase_ren] at a
   exact ⟨a, ok_unren _ b (bdTm_look hbt hv)⟩) (hstp.df ⟨hd.1, hdf0⟩) (hstp.ps hps0).2 ⟨hf.1, Nat.le_trans hfl hpl⟩
 refine ⟨n, x, fr', tm', df', ps', st', Φ', ρ', σ', ?_, ?_, e3, e4, e5, e6, e7, e8⟩
 ·rw [hfc, (hstp.ps hps0).1] at e1
  exact e1
 ·exact (hstp.weaken hfl).then e2 (Nat.le_refl _)
inductive Arr (fl : Nat) (tm0 : Tm) (σ0 : VS) (df : List VDef) (ps : VPs) (tm : Tm) (σ : VS) : Prop
 | same (hs : subTm tm0 tm) (h : σ = σ0)
 | drop (n : Nat) (hs : subTm tm0 tm) (hn : Nat.ble n σ.length = true) (hfl : Nat.ble fl n = true) (hb : bdS n σ n = true) (ht : bdTm n tm0 = true) (hdf : bdDf n df = true) (hps : bdPs n ps = true) (h : σ.take n = σ0)
 | pick (p : Nat) (ix : List Nat) (hs : subTm (renTm (emb ix σ.length) tm0) tm) (hbt : bdTm σ0.length tm0 = true) (hfl : Nat.ble fl p = true) (hid : idPre p ix 0 = true) (hdf : bdDf p df = true) (hps : bdPs p ps = true) (hnd : ix.Nodup) (hp : pickOk (emb ix σ.length) σ0.length σ ix σ0)
theorem VCode.arr {fc : VFC} {c : Code} {tm tm0 : Tm} {σ σ0 : VS} {df : List VDef} {ps : VPs} {Q : VEx -> Tm -> List VDef -> VPs -> VS -> Prop} (ha : Arr fc.fl tm0 σ0 df ps tm σ) (h : VCode C intr fc c tm0 df ps σ0 Q) : VCode C intr fc c tm df ps σ Q := by
 cases ha with
 | same hs e => subst e; exact h.less hs
 | drop n hs hn hfl hb ht hdf hps e => subst e; exact VCode.drop n hs hn hfl hb ht hdf hps h
 | pick p ix hs hbt hfl hid hdf hps hnd hp => exact VCode.pick p ix hs hbt hfl hid hdf hps hnd hp h
theorem VCode.iter {α : Type} (tmOf : α -> Tm) (σOf : α -> VS) (μ : α -> Nat) (I : α -> Prop) {fc : VFC} {b : Code} {df : List VDef} {ps : VPs} {Q : VEx -> Tm -> List VDef -> VPs -> VS -> Prop}
  (h : ∀ a, I a -> vc C intr fc b (tmOf a) df ps (σOf a) fun x tm df' ps' σ => match x with
   | .norm => ∃ a', I a' /\ μ a' < μ a /\ Arr fc.fl (tmOf a') (σOf a') df ps tm σ /\ df' = df /\ ps' = ps
   | x => Q x tm df' ps' σ) (a : α) (ha : I a) : VCode C intr fc (.loop b) (tmOf a) df ps (σOf a) Q := by
 have key : ∀ n a, μ a = n -> I a -> VCode C intr fc (.loop b) (tmOf a) df ps (σOf a) Q := by
  intro n
  induction n using Nat.strongRecOn with
  | _ n ih =>
   intro a hn ha
   refine ⟨fun Φ ρ st fr hr ht hd hp hf => ?_⟩
   obtain ⟨n1, r, h1, Φ1, ρ1, σ1, st1, x, tm1, df1, ps1, fr1, k1, k2, k3, k4, rfl⟩ := vc_sound b (h a ha) (fr := fr) ⟨hr, ht, hd, hp⟩ hf
   cases x with
   | norm =>
    obtain ⟨a', i1, i2, i3, rfl, rfl⟩ := k1
    have k1 := VCode.arr i3 (ih (μ a') (hn ▸ i2) a' rfl i1)
    obtain ⟨n', x, fr', tm', df', ps', st', Φ', ρ', σ', e1, e2, e3, e4, e5, e6, e7, e8⟩ := k1.go Φ1 ρ1 st1 fr1 k3.real k3.tm k3.df k3.ps (k2.fcl hf).2
    refine ⟨max n1 (n' + 1), x, fr', tm', df', ps', st', Φ', ρ', σ', ?_, k2.then e2 (Nat.le_refl _), e3, e4, e5, e6, e7, e8⟩
    have c1 := code_mono (recN_le (C := C) (intr := intr) (Nat.le_max_left n1 (n' + 1))) _ h1
    have c2 : (recN C intr (n' + 1)).code (eraseFC ρ1 fc) (.loop b) fr1 (erasePs ρ1 ps1) st1 = some (eraseEx ρ' x, fr', erasePs ρ' ps', st') := e1
    have c3 := (recN_le (C := C) (intr := intr) (Nat.le_max_right n1 (n' + 1))).code _ _ _ _ _ _ c2
    unfold code
    rw [c1]
    simp only [eraseEx]
    rw [(k2.fcl hf).1] at c3
    exact c3
   | exit id => exact ⟨n1, .exit id, fr1, tm1, df1, ps1, st1, Φ1, ρ1, σ1, by unfold code; rw [h1]; rfl, k2, k3.real, k3.tm, k3.df, k3.ps, trivial, k1⟩
   | ret => exact ⟨n1, .ret, fr1, tm1, df1, ps1, st1, Φ1, ρ1, σ1, by unfold code; rw [h1]; rfl, k2, k3.real, k3.tm, k3.df, k3.ps, trivial, k1⟩
   | panic v => exact ⟨n1, .panic v, fr1, tm1, df1, ps1, st1, Φ1, ρ1, σ1, by unfold code; rw [h1]; rfl, k2, k3.real, k3.tm, k3.df, k3.ps, k4, k1⟩
 exact key _ a rfl ha
mutual
theorem ren_closed (π : Nat -> Nat) : ∀ v : V, bd 0 v = true -> ren π v = v
 | .d _, _ => by simp only [ren]
 | .bp _ _, h => by simp only [bd] at h; exact absurd (blt_lt h) (Nat.not_lt_zero _)
 | .ptr _ _ _ _, h => by simp only [bd] at h; exact absurd (blt_lt h) (Nat.not_lt_zero _)
 | .fp _ _ _, _ => by simp only [ren]
 | .ms _ _ _ _ _, h => by simp only [bd] at h; exact absurd (blt_lt h) (Nat.not_lt_zero _)
 | .map _, h => by simp only [bd] at h; exact absurd (blt_lt h) (Nat.not_lt_zero _)
 | .fn _ a c, h => by simp only [bd, Bool.and_eq_true] at h; simp only [ren, renL_closed π a h.1, renL_closed π c h.2]
 | .yld _, h => by simp only [bd] at h; exact absurd (blt_lt h) (Nat.not_lt_zero _)
 | .iface _ v, h => by simp only [bd] at h; simp only [ren, ren_closed π v h]
 | .agg l, h => by simp only [bd] at h; simp only [ren, renL_closed π l h]
 | .tup l, h => by simp only [bd] at h; simp only [ren, renL_closed π l h]
theorem renL_closed (π : Nat -> Nat) : ∀ l : List V, bdL 0 l = true -> renL π l = l
 | [], _ => by simp only [renL]
 | v :: l, h => by simp only [bdL, Bool.and_eq_true] at h; simp only [renL, ren_closed π v h.1, renL_closed π l h.2]
end
def closedCR : VCR -> Bool
 | .ret v => bd 0 v
 | .pan v => bd 0 v
theorem VCall.closed {f : FuncId} {args : List V} {P : VCR -> Prop} (h0 : VCall C intr f args [] fun r σ' => σ' = [] /\ closedCR r = true /\ P r) (ha : bdL 0 args = true) {σ : VS} {K : VCR -> VS -> Prop} (hk : ∀ r, P r -> K r σ) : VCall C intr f args σ K := by
 refine h0.frame [] rfl List.nodup_nil (fun j i h => by simp at h) ha (renL_closed _ args ha).symm (fun r0 σ0' h _ => ?_)
 obtain ⟨rfl, h2, h3⟩ := h
 have : renCR (emb [] σ.length) r0 = r0 := by
  cases r0 with
  | ret v => simp only [renCR]; rw [ren_closed _ v h2]
  | pan v => simp only [renCR]; rw [ren_closed _ v h2]
 rw [this]
 simp only [List.map_nil, merge, List.append_nil]
 exact hk r0 h3
theorem VCall.pure {f : FuncId} {args : List V} {v : V} (h0 : VCall C intr f args [] fun r σ' => σ' = [] /\ r = .ret v) (ha : bdL 0 args = true) (hv : bd 0 v = true) {σ : VS} {K : VCR -> VS -> Prop} (hk : K (.ret v) σ) : VCall C intr f args σ K :=
 VCall.closed (P := fun r => r = .ret v) (h0.mono fun r σ' h => ⟨h.1, by rw [h.2]; exact hv, h.2⟩) ha fun r h => by rw [h]; exact hk
end
mutual
theorem ren_pre (π : Nat -> Nat) (k : Nat) (h : ∀ i, i < k -> π i = i) : ∀ v : V, bd k v = true -> ren π v = v
 | .d _, _ => by simp only [ren]
 | .bp _ _, hb => by simp only [bd] at hb; simp only [ren, h _ (blt_lt hb)]
 | .ptr _ _ _ _, hb => by simp only [bd] at hb; simp only [ren, h _ (blt_lt hb)]
 | .fp _ _ _, _ => by simp only [ren]
 | .ms _ _ _ _ _, hb => by simp only [bd] at hb; simp only [ren, h _ (blt_lt hb)]
 | .map _, hb => by simp only [bd] at hb; simp only [ren, h _ (blt_lt hb)]
 | .fn _ a c, hb => by simp only [bd, Bool.and_eq_true] at hb; simp only [ren, renL_pre π k h a hb.1, renL_pre π k h c hb.2]
 | .yld _, hb => by simp only [bd] at hb; simp only [ren, h _ (blt_lt hb)]
 | .iface _ v, hb => by simp only [bd] at hb; simp only [ren, ren_pre π k h v hb]
 | .agg l, hb => by simp only [bd] at hb; simp only [ren, renL_pre π k h l hb]
 | .tup l, hb => by simp only [bd] at hb; simp only [ren, renL_pre π k h l hb]
theorem renL_pre (π : Nat -> Nat) (k : Nat) (h : ∀ i, i < k -> π i = i) : ∀ l : List V, bdL k l = true -> renL π l = l
 | [], _ => by simp only [renL]
 | v :: l, hb => by simp only [bdL, Bool.and_eq_true] at hb; simp only [renL, ren_pre π k h v hb.1, renL_pre π k h l hb.2]
end
theorem renTm_pre (π : Nat -> Nat) (k : Nat) (h : ∀ i, i < k -> π i = i) : ∀ l : Tm, bdTm k l = true -> renTm π l = l := by
 intro l
 induction l with
 | nil => intro _; rfl
 | cons x l ih =>
  obtain ⟨t, v⟩ := x
  intro hb
  simp only [bdTm, Bool.and_eq_true] at hb
  simp only [renTm, ren_pre π k h v hb.1, ih hb.2]
theorem renO_pre (π : Nat -> Nat) (k : Nat) (h : ∀ i, i < k -> π i = i) (o : VObj) (hb : bdO k o = true) : renO π o = o := by
 cases o with
 | box cs => simp only [renO]; rw [renL_pre π k h cs hb]
 | row es els =>
  simp only [renO]
  congr 1
  simp only [bdO, List.all_eq_true] at hb
  conv => rhs; rw [<- List.map_id els]
  exact List.map_congr_left fun e he => renL_pre π k h e (hb e he)
 | map es c =>
  simp only [renO]
  congr 1
  simp only [bdO, List.all_eq_true, Bool.and_eq_true] at hb
  conv => rhs; rw [<- List.map_id es]
  exact List.map_congr_left fun e he => by
   obtain ⟨ky, v, b⟩ := e
   have := hb _ he
   simp only [renE, ren_pre π k h ky this.1, ren_pre π k h v this.2, id]
 | loop L =>
  simp only [bdO, Bool.and_eq_true] at hb
  simp only [renO, renTm_pre π k h L.tm hb.1, h _ (blt_lt hb.2)]
 | defl t => rfl
 | gone => rfl
theorem set_mid (pre : VS) (o b : VObj) (tl : VS) : (pre ++ o :: tl).set pre.length b = pre ++ b :: tl := by
 induction pre with
 | nil => rfl
 | cons a pre ih => simp only [List.cons_append, List.length_cons, List.set_cons_succ, ih]
theorem merge_pre : ∀ (l σ0 pre ext : VS), l.length = σ0.length -> merge (pre ++ (σ0 ++ ext)) (List.range' pre.length σ0.length) l = pre ++ (l ++ ext) := by
 intro l
 induction l with
 | nil =>
  intro σ0 pre ext h
  have : σ0 = [] := List.eq_nil_of_length_eq_zero h.symm
  subst this
  simp [merge]
 | cons b l ih =>
  intro σ0 pre ext h
  cases σ0 with
  | nil => simp at h
  | cons o σ0 =>
   simp only [List.length_cons, List.range'_succ, merge]
   rw [List.cons_append, set_mid]
   have := ih σ0 (pre ++ [b]) ext (by simpa using h)
   simp only [List.length_append, List.length_cons, List.length_nil, List.append_assoc, List.cons_append, List.nil_append] at this
   exact this
section
variable {C : Ctx} {intr : FuncId -> List Value -> Option Value}
theorem VCall.pre {f : FuncId} {args : List V} {σ0 : VS} {K0 K : VCR -> VS -> Prop} (h0 : VCall C intr f args σ0 K0) (ext : VS) (hb : bdS σ0.length σ0 σ0.length = true) (ha : bdL σ0.length args = true)
  (hK : ∀ r σ', K0 r σ' -> σ'.length = σ0.length /\ bdS σ0.length σ' σ'.length = true /\ bdCR σ0.length r = true /\ K r (σ' ++ ext)) : VCall C intr f args (σ0 ++ ext) K := by
 have hid : ∀ N i, i < σ0.length -> emb (List.range' 0 σ0.length) N i = i := fun N i hi => by
  rw [emb_at (i := i) (by rw [List.getElem?_range' hi]; simp)]
 have hren : ∀ o, bdO σ0.length o = true -> renO (emb (List.range' 0 σ0.length) (σ0 ++ ext).length) o = o := fun o ho => renO_pre _ _ (hid _) o ho
 refine h0.frame (List.range' 0 σ0.length) (by simp) (List.nodup_range') (fun j i h => ?_) ha (renL_pre _ _ (hid _) _ ha).symm (fun r0 σ0' h hl => ?_)
 ·obtain ⟨hj, e⟩ := List.getElem?_eq_some_iff.1 h
  simp only [List.length_range'] at hj
  simp only [List.getElem_range', Nat.one_mul, Nat.zero_add] at e
  subst e
  have ho := List.getElem?_eq_getElem (l := σ0) hj
  refine ⟨_, ho, ?_, bdS_get hb hj ho⟩
  rw [hren _ (bdS_get hb hj ho), List.getElem?_append_left hj, ho]
 ·obtain ⟨h1, h2, h3, h4⟩ := hK r0 σ0' h
  have e1 : renCR (emb (List.range' 0 σ0.length) (σ0 ++ ext).length) r0 = r0 := by
   cases r0 with
   | ret v => simp only [renCR]; rw [ren_pre _ _ (hid _) v h3]
   | pan v => simp only [renCR]; rw [ren_pre _ _ (hid _) v h3]
  have e2 : σ0'.map (renO (emb (List.range' 0 σ0.length) (σ0 ++ ext).length)) = σ0' := by
   conv => rhs; rw [<- List.map_id σ0']
   refine List.map_congr_left fun o ho => ?_
   obtain ⟨i, hi⟩ := List.getElem?_of_mem ho
   exact hren o (bdS_get h2 (List.getElem?_eq_some_iff.1 hi).1 hi)
  rw [e1, e2]
  have := merge_pre σ0' σ0 [] ext h1
  simp only [List.nil_append, List.length_nil] at this
  rw [this]
  exact h4
end
end Go.VM
