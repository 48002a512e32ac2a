/- Code, calls, rounds of loops over functions: a run of the evaluator is a call of the model's machine. -/
import Derived.Test.YtaefjijnnbcjbaaGreatDoorAmC
import Derived.RangeFuncNested
import Derived.Lib.Bytealg
import Derived.Lib.IndexMore
/- Regions and code: what the abstract machine evaluates, the model's machine steps through. -/
namespace Go.AM
open Go.RowKit (Below)

section
variable {C : Ctx} {w0 : World} {N0 : Nat} {G : Nat → Prop} {fc : FC} {b : FB} {rc : Rec}

theorem CodeRes.of_steps {ρ ρ1 : Ren} {m0 m1 : Machine} {k : List Item} {ps ps1 ps' : PanS} {cs cs1 : List Frame} {x : Ex} {fr' : Fr} {st' : St} (hle : ρ.le ρ1) (hps : PStep ps ps1 cs cs1) (hst : Steps C.P m0 m1) (h : CodeRes C w0 N0 G ρ1 fc m1 b k ps1 cs1 x fr' ps' st') : CodeRes C w0 N0 G ρ fc m0 b k ps cs x fr' ps' st' := by
  obtain ⟨ρ', w', tm', df', cs', h4, h5, h6, h7, h8⟩ := h
  exact ⟨ρ', w', tm', df', cs', hle.trans h4, h5, h6, hps.trans h7, .of_steps hst h8⟩

theorem region_sound (hT : TOk C) (hF : FOk C) (hE : ExtOk C) (hmix : C.P.follows .mixedOrders = true) (hR : ∀ G, RecOk C w0 N0 G rc) {id : Nat} {ops : Array Oper} {draw : Bool} (hplan : draw = true → planOk ops.toList = true) {fr fr' : Fr} {ps ps' : PanS} {st st' : St} {x : Ex} (h : region C rc fc ops draw fr ps st = some (x, fr', ps', st'))
    {ρ : Ren} {w : World} {tm : Array Value} {df : List Deferred} {cs : List Frame} (k : List Item) (hw : WRel w0 N0 G ρ st w) (hf : FRel ρ fc fr b tm df) (hp : PRel ρ fc.dfd ps cs) :
    CodeRes C w0 N0 G ρ fc (lone (mkF b tm df (.code (.region id ops draw) :: k)) cs w) b k ps cs x fr' ps' st' := by
  cases draw with
  | false =>
    have := seqOps_sound (fc := fc) (b := b) hT hF hE (hR G) (ops := ops) k ops.toList 0 fr ps st ρ w tm df cs x fr' ps' st' rfl h hw hf hp
    exact .of_steps (Ren.le_refl _) (.refl _ _) (.one st_region) this
  | true =>
    have hpf := planOk_spec (hplan rfl)
    unfold region at h
    simp only at h
    have hlin := lin_schedule (ops := ops) hpf.back (w.tape w.drawn (.order b.fn id))
    have hstep := st_region_draw (P := C.P) (b := b) (tm := tm) (df := df) (k := k) (cs := cs) (w := w) (id := id) (ops := ops)
    rw [hmix] at hstep
    have hinv : Inv w0 N0 G ops (plan ops.toList).bs (plan ops.toList).m fc b (fun _ => false) [] 0 [] fr ps st ρ { w with drawn := w.drawn + 1 } tm df cs := by
      refine ⟨⟨fun i h => by simp at h, fun i o h => by simp at h⟩, fun i h => by simp at h, fun i h => by simp at h, fun i h => by simp at h, fun j h => by simp at h, fun i v N ob h => by simp at h, fun i v N ob i' v' ob' h => by simp at h, fun c h => by simp at h, fun c h => by simp at h, fun i v N ob h => by simp at h, ?_, ?_, hp⟩
      · refine (hw.drewN _).fewer ?_
        rintro x (hx | ⟨j, v, ob, hm, _⟩)
        · exact hx
        · simp at hm
      · have : maskF fr (pend ops (fun _ => false) []) = fr := rfl
        rw [this]; exact hf
    cases hdr : drawOps C rc fc ops.toList (plan ops.toList).bs (plan ops.toList).order 0 [] fr ps st with
    | none => rw [hdr] at h; cases h
    | some res =>
      have hres := draw_sound (C := C) (rc := rc) hT hF hE hR hpf k hlin [] (plan ops.toList).order 0 [] fr ps st ρ _ tm df cs res rfl hdr (fun _ _ => rfl) hinv
      rw [hdr] at h
      obtain ⟨x1, fr1, ps1, st1⟩ := res
      have other : (∀ y, x1 = y → y ≠ .norm → some (x1, fr1, ps1, st1) = some (x, fr', ps', st') → CodeRes C w0 N0 G ρ fc (lone (mkF b tm df (.inRegion ops (Region.schedule true ops (w.tape w.drawn (.order b.fn id))) :: k)) cs { w with drawn := w.drawn + 1 }) b k ps cs x1 fr1 ps1 st1 → CodeRes C w0 N0 G ρ fc (lone (mkF b tm df (.code (.region id ops true) :: k)) cs w) b k ps cs x fr' ps' st') := by
        intro y _ _ he hc
        cases he
        exact .of_steps (Ren.le_refl _) (.refl _ _) (.one hstep) hc
      cases x1 with
      | exit i => exact other _ rfl (by intro e; cases e) h hres
      | ret => exact other _ rfl (by intro e; cases e) h hres
      | panic v => exact other _ rfl (by intro e; cases e) h hres
      | norm =>
        obtain ⟨D', L', ρ', w', tm', df', cs', h1, h2, h3, h4, h5, h6, h7, h8, h9⟩ := hres
        simp only at h
        split at h
        · rename_i hm
          have hm := Nat.eq_of_beq_eq_true hm
          simp only [Option.some.injEq, Prod.mk.injEq] at h
          obtain ⟨rfl, rfl, rfl, rfl⟩ := h
          have hL : L' = [] := by
            cases h1 with
            | nil _ => rfl
            | @cons _ i L o ho hn he t =>
              exfalso
              have hlt : i < ops.size := by
                rcases Nat.lt_or_ge i ops.size with hh | hh
                · exact hh
                · rw [Array.getElem?_eq_none hh] at ho; cases ho
              rw [h3 i (by rw [hm]; simpa using hlt)] at hn
              cases hn
          subst hL
          exact ⟨ρ', w', tm', df', cs', h4, h5, h6, h7, (Steps.head hstep h8).trans (.one st_region_end)⟩
        · split at h
          · rename_i a s1 s2 b1 hops hb1
            split at h
            · rename_i hbit
              obtain ⟨rfl, rfl, ρ2, w2, tm2, hle2, hw2, hf2, hs2⟩ := tail3_sound (C := C) hT hF hE hpf hops h h1 h2 h3 h9 (by unfold bitAt; rw [hb1]; exact hbit) cs' k h5 h6
              exact ⟨ρ2, w2, tm2, df', cs', h4.trans hle2, hw2, hf2, h7, (Steps.head hstep (h8.trans hs2)).trans (.one st_region_end)⟩
            · cases h
          · cases h

end
end Go.AM

/- Code, continued: loops over functions. -/
namespace Go.AM
open Go.RowKit (Below)

def plainObj : AObj → Bool
  | .cells .. => false
  | .dead => false
  | _ => true

section
variable {w0 : World} {N0 : Nat} {G : Nat → Prop} {ρ : Ren} {st : St} {w : World}

/-- a block that is no row, written anew -/
theorem WRel.putPlain (h : WRel w0 N0 G ρ st w) {r : Nat} {l : Loc} {o o2 : AObj} {co : Obj} (hl : ρ r = some l) (hg : st.get r = some o) (hp : plainObj o = true) (hp2 : plainObj o2 = true) (hr : ORel ρ l o2 (some co)) :
    WRel w0 N0 G ρ (st.put r o2) { w with heap := w.heap.setIfInBounds l.b co } := by
  have hdom := h.dom _ _ hl
  have hother : ∀ k, k ≠ l.b → (w.heap.setIfInBounds l.b co)[k]? = w.heap[k]? := fun k hk => Array.getElem?_setIfInBounds_ne (fun e => hk e.symm)
  have hhere : (w.heap.setIfInBounds l.b co)[l.b]? = some co := Array.getElem?_setIfInBounds_self_of_lt hdom.2.2
  have hone : ∀ x lx ox, ρ x = some lx → (st.put r o2).get x = some ox → lx.b = l.b → x = r ∨ ox = .dead := by
    intro x lx ox hx hgx hlb
    by_cases hxr : x = r
    · exact .inl hxr
    · rw [St.get_put, if_neg hxr] at hgx
      have := h.sep _ _ _ _ _ _ hl hx hlb.symm hg hgx (fun e => hxr e.symm)
      cases o <;> cases ox <;> first | exact .inr rfl | exact this.elim | cases hp
  refine ⟨⟨fun b o hb => ?_, fun b c e f p hb => ?_, h.wf.fml⟩, ?_, by simpa using h.big, h.gho, fun b l' hb => by have := h.dom b l' hb; exact ⟨this.1, this.2.1, by simpa using this.2.2⟩, fun b l' o hb hgb => ?_, fun b b' l1 l2 o1 o2 h1 h2 he g1 g2 hne => ?_⟩
  · rw [St.get_put] at hb
    split at hb
    · rename_i e; subst e; exact h.wf.lt _ _ hg
    · exact h.wf.lt _ _ hb
  · rw [St.get_put] at hb
    split at hb
    · cases hb; cases hp2
    · exact h.wf.fam _ _ _ _ _ hb
  · exact h.below.trans ⟨rfl, rfl, rfl, by simp, fun k hk => hother k (by omega)⟩
  · show ORel ρ l' o (w.heap.setIfInBounds l.b co)[l'.b]?
    by_cases hlb : l'.b = l.b
    · rcases hone _ _ _ hb hgb hlb with rfl | rfl
      · rw [St.get_put, if_pos rfl] at hgb
        cases hgb
        rw [hl] at hb; cases hb
        rw [hhere]
        exact hr
      · trivial
    · rw [hother _ hlb]
      rw [St.get_put] at hgb
      split at hgb
      · rename_i e; subst e; rw [hl] at hb; cases hb; exact absurd rfl hlb
      · exact h.obj _ _ _ hb hgb
  · by_cases hlb : l1.b = l.b
    · rcases hone _ _ _ h1 g1 hlb with e1 | e1
      · rcases hone _ _ _ h2 g2 (he ▸ hlb) with e2 | e2
        · exact absurd (e1.trans e2.symm) hne
        · subst e2; cases o1 <;> trivial
      · subst e1; cases o2 <;> trivial
    · have hb1 : b ≠ r := fun e => by subst e; rw [hl] at h1; cases h1; exact hlb rfl
      have hb2 : b' ≠ r := fun e => by subst e; rw [hl] at h2; cases h2; exact hlb he
      rw [St.get_put, if_neg hb1] at g1
      rw [St.get_put, if_neg hb2] at g2
      exact h.sep _ _ _ _ _ _ h1 h2 he g1 g2 hne

end

section
variable {P : Program} {b : FB} {tm : Array Value} {df : List Deferred} {k : List Item} {cs : List Frame} {w : World}

theorem st_rangeFunc {f : Operand} {params : Array Tmp} {assign body : Code} {l : Nat} {mark : List Deferred} {w1 : World} {g : FuncId} {first captured : Array Value} (hf : evF tm f = .func (.func g) first captured)
    (he : (Instr.enterLoop b.fn tm params assign body b.round).run P w = .ok (l, mark) w1) (hc : (callFunc g (first ++ #[.func (.yield l) #[] #[]] ++ captured)).run P w1 = .ok (.enter g (first ++ #[.func (.yield l) #[] #[]] ++ captured)) w1) :
    step P (lone (mkF b tm df (.code (.rangeFunc f params assign body) :: k)) cs w) =
      .next (lone (Frame.enter P g (first ++ #[.func (.yield l) #[] #[]] ++ captured) .normal) (mkF b tm (mark ++ df) (.inRangeFunc l :: k) :: cs) w1) := by
  refine step_lone_go ?_
  have hev := eval_mkF b tm (mark ++ df) (.inRangeFunc l :: k)
  have hrun : (do let d ← resolve (mkF b tm (mark ++ df) (.inRangeFunc l :: k)).eval { callee := .value f, args := #[.const (.func (.yield l) #[] #[])], argTypes := #[] } 0; invoke d.target d.args : Sem Next).run P w1 = .ok (.enter g (first ++ #[.func (.yield l) #[] #[]] ++ captured)) w1 := by
    rw [hev]
    unfold resolve
    have hm : Array.map (evF tm) #[.const (.func (.yield l) #[] #[])] = #[.func (.yield l) #[] #[]] := by simp [evF]
    simp only [hf, hm]
    exact hc
  simp only [mkF] at hrun he ⊢
  simp [stepG, stepG.exec, Sem.runT_eq, he, stepG.apply, hrun]

theorem st_endRange {l : Nat} {jump : Option Code} {w1 : World} (he : (Instr.endLoop l).run P w = .ok jump w1) :
    step P (lone (mkF b tm df (.endRangeFunc l :: k)) cs w) = .next (lone (mkF b tm df ((jump.map Item.code).toList ++ k)) cs w1) :=
  step_lone_go (by simp [stepG, stepG.exec, mkF, Sem.runT_eq, he])

end

section
variable {C : Ctx} {w0 : World} {N0 : Nat} {G : Nat → Prop} {fc : FC} {b : FB} {rc : Rec}

theorem enterRange_sound {ρ : Ren} {st st1 : St} {w : World} {fr fr1 : Fr} {tm : Array Value} {df : List Deferred} {params : Array Tmp} {assign body : Code} {l : Nat} (hok : codeOk assign = true ∧ codeOk body = true) (h : enterRange fc fr params.toList assign body st = some (l, fr1, st1)) (hw : WRel w0 N0 G ρ st w) (hf : FRel ρ fc fr b tm df) :
    ∃ ρ1 w1 L mark, ρ.le ρ1 ∧ WRel w0 N0 G ρ1 st1 w1 ∧ ρ1 l = some L ∧ (Instr.enterLoop b.fn tm params assign body b.round).run C.P w = .ok (L.b, mark) w1 ∧ FRel ρ1 fc fr1 b tm (mark ++ df) := by
  unfold enterRange at h
  split at h
  · rename_i l0 hround
    split at h
    · rename_i al hal
      simp only [Option.some.injEq, Prod.mk.injEq] at h
      obtain ⟨rfl, rfl, rfl⟩ := h
      have hrr := hf.round
      rw [hround] at hrr
      obtain ⟨L0, hL0, hb0⟩ := hrr
      obtain ⟨lo, hlo, hl⟩ := hw.obj _ _ _ hL0 hal
      have hnone := hw.none_at
      let L : Loc := ⟨w.heap.size, 0, 0, 0⟩
      have hadd := Ren.le_add (l := L) hnone
      obtain ⟨ld, hld, hlb⟩ := hl.defers
      refine ⟨ρ.add st.n L, _, L, [], hadd, hw.new (l := L) (o := .loop { state := .ready, pending := none, fn := fc.fn, tm := fr.tm, nt := fc.nt, params := params.toList, assign, body, defers := al.defers }) (co := .loop { state := .ready, pending := none, fn := b.fn, tmps := tm, params, assign, body, defers := lo.defers }) rfl trivial ?_, Ren.add_same _ _ _, ?_, ?_⟩
      · exact ⟨_, rfl, rfl, rfl, hf.fn, hf.tm.mono hadd, rfl, rfl, rfl, ⟨ld, hadd _ _ hld, hlb⟩, hok⟩
      · rw [hb0]; exact run_enterLoop_inner hlo _ _ _ _ _
      · exact hf.mono hadd
    · cases h
  · rename_i hround
    simp only [Option.some.injEq, Prod.mk.injEq] at h
    obtain ⟨rfl, rfl, rfl⟩ := h
    have hrr := hf.round
    rw [hround] at hrr
    have hnone := hw.none_at
    let L0 : Loc := ⟨w.heap.size, 0, 0, 0⟩
    have hadd := Ren.le_add (l := L0) hnone
    have hw1 := hw.new (l := L0) (o := .defl false) (co := .deferred (some [])) rfl trivial rfl
    have hnone1 := hw1.none_at
    let L : Loc := ⟨w.heap.size + 1, 0, 0, 0⟩
    have hadd1 := Ren.le_add (l := L) hnone1
    have hd0 : ((ρ.add st.n L0).add (st.new (.defl false)).n L) st.n = some L0 := hadd1 _ _ (Ren.add_same _ _ _)
    have hw2 := hw1.new (l := L) (o := .loop { state := .ready, pending := none, fn := fc.fn, tm := fr.tm, nt := fc.nt, params := params.toList, assign, body, defers := st.n }) (co := .loop { state := .ready, pending := none, fn := b.fn, tmps := tm, params, assign, body, defers := w.heap.size }) (by simp [L]) trivial
      ⟨_, rfl, rfl, rfl, hf.fn, hf.tm.mono (hadd.trans hadd1), rfl, rfl, rfl, ⟨L0, hd0, rfl⟩, hok⟩
    refine ⟨_, _, L, [{ target := .collected w.heap.size, args := #[] }], hadd.trans hadd1, hw2, Ren.add_same _ _ _, ?_, ?_⟩
    · have hrn : b.round = none := hrr
      rw [hrn]; exact run_enterLoop_outer _ _ _ _ _
    · have hf' := hf.mono (hadd.trans hadd1)
      exact ⟨hf'.fn, hf'.round, hf'.kind, hf'.tm, ⟨⟨⟨L0, hd0, rfl⟩, .nil⟩, hf'.df⟩⟩

theorem Arr.pass {P : Program} {m : Machine} {ρ : Ren} {k k' : List Item} {tm : Array Value} {df : List Deferred} {cs : List Frame} {w : World} {x : Ex} (hx : x ≠ .norm) (hk : ∀ id, x = .exit id → exitTo id k' = exitTo id k) (a : Arr P m ρ b k' tm df cs w x) : Arr P m ρ b k tm df cs w x := by
  cases x with
  | norm => exact absurd rfl hx
  | exit id => obtain ⟨k1, s, e⟩ := a; exact ⟨k1, s, e.trans (hk id rfl)⟩
  | ret => exact a
  | panic v => exact a

theorem CodeRes.pass {ρ : Ren} {m : Machine} {k k' : List Item} {ps ps' : PanS} {cs : List Frame} {x : Ex} {fr' : Fr} {st' : St} (hx : x ≠ .norm) (hk : ∀ id, x = .exit id → exitTo id k' = exitTo id k) (h : CodeRes C w0 N0 G ρ fc m b k' ps cs x fr' ps' st') : CodeRes C w0 N0 G ρ fc m b k ps cs x fr' ps' st' := by
  obtain ⟨ρ', w', tm', df', cs', h4, h5, h6, h7, h8⟩ := h
  exact ⟨ρ', w', tm', df', cs', h4, h5, h6, h7, h8.pass hx hk⟩

/-- a loop gone round: the same from the loop's item -/
theorem loop_again {ρ : Ren} {c : Code} {k : List Item} {tm : Array Value} {df : List Deferred} {w : World} {ps ps' : PanS} {cs : List Frame} {x : Ex} {fr' : Fr} {st' : St} (h : CodeRes C w0 N0 G ρ fc (lone (mkF b tm df (.code (.loop c) :: k)) cs w) b k ps cs x fr' ps' st') :
    CodeRes C w0 N0 G ρ fc (lone (mkF b tm df (.inLoop c :: k)) cs w) b k ps cs x fr' ps' st' := by
  have key : ∀ m, Steps C.P (lone (mkF b tm df (.code (.loop c) :: k)) cs w) m → m ≠ lone (mkF b tm df (.code (.loop c) :: k)) cs w → Steps C.P (lone (mkF b tm df (.inLoop c :: k)) cs w) m := by
    rintro m ⟨n, hn⟩ hne
    cases n with
    | zero => simp [runN] at hn; exact absurd hn.symm hne
    | succ n =>
      simp only [runN, st_loop] at hn
      exact .head st_inLoop ⟨n, hn⟩
  have inj : ∀ {f f' : Frame} {cs1 cs2 : List Frame} {w1 w2 : World}, lone f cs1 w1 = lone f' cs2 w2 → f = f' := by
    intro f f' cs1 cs2 w1 w2 he
    simp [lone] at he
    exact he.2.1
  obtain ⟨ρ', w', tm', df', cs', h4, h5, h6, h7, h8⟩ := h
  refine ⟨ρ', w', tm', df', cs', h4, h5, h6, h7, ?_⟩
  cases x with
  | norm =>
    refine key _ h8 fun he => ?_
    have := congrArg Frame.todo (inj he)
    simp only [mkF] at this
    exact absurd (congrArg List.length this) (by simp)
  | exit id =>
    obtain ⟨k1, s, e⟩ := h8
    refine ⟨k1, key _ s fun he => ?_, e⟩
    have := congrArg Frame.todo (inj he)
    simp [mkF] at this
  | ret =>
    obtain ⟨k1, s⟩ := h8
    refine ⟨k1, key _ s fun he => ?_⟩
    have := congrArg Frame.todo (inj he)
    simp [mkF] at this
  | panic v =>
    obtain ⟨k1, v', r, s⟩ := h8
    refine ⟨k1, v', r, key _ s fun he => ?_⟩
    have := congrArg Frame.mode (inj he)
    simp [mkF] at this

end
end Go.AM

/- Code, third part: code is sound. -/
namespace Go.AM
open Go.RowKit (Below)

section
variable {C : Ctx} {w0 : World} {N0 : Nat} {G : Nat → Prop} {fc : FC} {b : FB} {rc : Rec}

theorem exitTo_code {c : Code} {k : List Item} (id : Nat) : exitTo id (.code c :: k) = exitTo id k := rfl

theorem code_sound (hT : TOk C) (hF : FOk C) (hE : ExtOk C) (hmix : C.P.follows .mixedOrders = true) (hR : ∀ G, RecOk C w0 N0 G rc) : ∀ (c : Code) (fr : Fr) (ps : PanS) (st : St) (x : Ex) (fr' : Fr) (ps' : PanS) (st' : St),
    code C rc fc c fr ps st = some (x, fr', ps', st') → codeOk c = true → ∀ (ρ : Ren) (w : World) (tm : Array Value) (df : List Deferred) (cs : List Frame) (k : List Item), WRel w0 N0 G ρ st w → FRel ρ fc fr b tm df → PRel ρ fc.dfd ps cs →
    CodeRes C w0 N0 G ρ fc (lone (mkF b tm df (.code c :: k)) cs w) b k ps cs x fr' ps' st' := by
  intro c
  induction c with
  | skip =>
    intro fr ps st x fr' ps' st' h hok ρ w tm df cs k hw hf hp
    simp only [code, Option.some.injEq, Prod.mk.injEq] at h
    obtain ⟨rfl, rfl, rfl, rfl⟩ := h
    exact ⟨ρ, w, tm, df, cs, Ren.le_refl _, hw, hf, .refl _ _, .one st_skip⟩
  | region id ops draw =>
    intro fr ps st x fr' ps' st' h hok ρ w tm df cs k hw hf hp
    simp only [code] at h
    refine region_sound hT hF hE hmix hR (fun hd => ?_) h k hw hf hp
    subst hd
    exact hok
  | seq a b iha ihb =>
    intro fr ps st x fr' ps' st' h hok ρ w tm df cs k hw hf hp
    simp only [codeOk, Bool.and_eq_true] at hok
    simp only [code] at h
    cases ha : code C rc fc a fr ps st with
    | none => rw [ha] at h; cases h
    | some r =>
      obtain ⟨x1, fr1, ps1, st1⟩ := r
      have h1 := iha _ _ _ _ _ _ _ ha hok.1 ρ w tm df cs (.code b :: k) hw hf hp
      have h1 := h1.of_steps (Ren.le_refl _) (.refl _ _) (.one (st_seq (P := C.P) (x := a) (y := b) (k := k)))
      rw [ha] at h
      by_cases hx : x1 = .norm
      · subst hx
        obtain ⟨ρ1, w1, tm1, df1, cs1, hle, hw1, hf1, hps, hst⟩ := h1
        exact .of_steps hle hps hst (ihb _ _ _ _ _ _ _ h hok.2 ρ1 w1 tm1 df1 cs1 k hw1 hf1 ((hp.mono hle).step hps))
      · have he : some (x1, fr1, ps1, st1) = some (x, fr', ps', st') := by
          cases x1 with
          | norm => exact absurd rfl hx
          | _ => exact h
        cases he
        exact CodeRes.pass (k' := .code b :: k) hx (fun _ _ => rfl) h1
  | cond c a b iha ihb =>
    intro fr ps st x fr' ps' st' h hok ρ w tm df cs k hw hf hp
    simp only [codeOk, Bool.and_eq_true] at hok
    simp only [code] at h
    split at h
    · rename_i hc
      have hv := evOp_rel hf.tm c _ hc
      generalize hgv : evF tm c = v' at hv
      cases hv
      exact .of_steps (Ren.le_refl _) (.refl _ _) (.one (st_cond hgv)) (iha _ _ _ _ _ _ _ h hok.1 ρ w tm df cs k hw hf hp)
    · rename_i hc
      have hv := evOp_rel hf.tm c _ hc
      generalize hgv : evF tm c = v' at hv
      cases hv
      exact .of_steps (Ren.le_refl _) (.refl _ _) (.one (st_cond hgv)) (ihb _ _ _ _ _ _ _ h hok.2 ρ w tm df cs k hw hf hp)
    · cases h
  | block id a iha =>
    intro fr ps st x fr' ps' st' h hok ρ w tm df cs k hw hf hp
    simp only [codeOk] at hok
    simp only [code] at h
    cases ha : code C rc fc a fr ps st with
    | none => rw [ha] at h; cases h
    | some r =>
      obtain ⟨x1, fr1, ps1, st1⟩ := r
      have h1 := iha _ _ _ _ _ _ _ ha hok ρ w tm df cs (.inBlock id :: k) hw hf hp
      have h1 := h1.of_steps (Ren.le_refl _) (.refl _ _) (.one (st_block (P := C.P) (id := id) (c := a) (k := k)))
      rw [ha] at h
      cases x1 with
      | norm =>
        cases h
        obtain ⟨ρ1, w1, tm1, df1, cs1, hle, hw1, hf1, hps, hst⟩ := h1
        exact ⟨ρ1, w1, tm1, df1, cs1, hle, hw1, hf1, hps, hst.trans (.one st_inBlock)⟩
      | exit id' =>
        simp only at h
        split at h
        · rename_i hid
          have hid := Nat.eq_of_beq_eq_true hid
          subst hid
          cases h
          obtain ⟨ρ1, w1, tm1, df1, cs1, hle, hw1, hf1, hps, k1, hst, hk⟩ := h1
          have hk' : exitTo id' k1 = some k := by rw [hk]; simp [exitTo]
          exact ⟨ρ1, w1, tm1, df1, cs1, hle, hw1, hf1, hps, hst.trans (.one (st_exit hk'))⟩
        · rename_i hid
          cases h
          refine h1.pass (by intro e; cases e) fun i hi => ?_
          cases hi
          have := Nat.ne_of_beq_eq_false hid
          simp only [exitTo]
          rw [if_neg (by simpa using fun e : id = id' => this e.symm)]
      | ret => cases h; exact h1.pass (by intro e; cases e) fun i hi => by cases hi
      | panic v => cases h; exact h1.pass (by intro e; cases e) fun i hi => by cases hi
  | loop a iha =>
    intro fr ps st x fr' ps' st' h hok ρ w tm df cs k hw hf hp
    simp only [codeOk] at hok
    simp only [code] at h
    cases ha : code C rc fc a fr ps st with
    | none => rw [ha] at h; cases h
    | some r =>
      obtain ⟨x1, fr1, ps1, st1⟩ := r
      have h1 := iha _ _ _ _ _ _ _ ha hok ρ w tm df cs (.inLoop a :: k) hw hf hp
      have h1 := h1.of_steps (Ren.le_refl _) (.refl _ _) (.one (st_loop (P := C.P) (c := a) (k := k)))
      rw [ha] at h
      by_cases hx : x1 = .norm
      · subst hx
        obtain ⟨ρ1, w1, tm1, df1, cs1, hle, hw1, hf1, hps, hst⟩ := h1
        exact .of_steps hle hps hst (loop_again ((hR G).code _ _ _ _ _ _ _ _ _ h hok ρ1 w1 b tm1 df1 cs1 k hw1 hf1 ((hp.mono hle).step hps)))
      · have he : some (x1, fr1, ps1, st1) = some (x, fr', ps', st') := by
          cases x1 with
          | norm => exact absurd rfl hx
          | _ => exact h
        cases he
        exact CodeRes.pass (k' := .inLoop a :: k) hx (fun _ _ => rfl) h1
  | rangeFunc f params assign body _ _ =>
    intro fr ps st x fr' ps' st' h hok ρ w tm df cs k hw hf hp
    simp only [codeOk, Bool.and_eq_true] at hok
    simp only [code] at h
    split at h
    · rename_i g first captured l fr1 st1 hev hent
      split at h
      · cases h
      · rename_i fi hfi
        have hv := evOp_rel hf.tm f _ hev
        generalize hgv : evF tm f = v' at hv
        cases hv with
        | @func _ _ first' _ captured' hfirst hcapt =>
        obtain ⟨ρ1, w1, L, mark, hle, hw1, hL, hrun, hf1⟩ := enterRange_sound (C := C) hok hent hw hf
        have hst1 := st_rangeFunc (P := C.P) (df := df) (k := k) (cs := cs) hgv hrun (callFunc_body hF hfi _)
        have hargs : VsRel ρ1 (first.toList ++ [.func (.yield l) #[] #[]] ++ captured.toList) (first' ++ #[Value.func (.yield L.b) #[] #[]] ++ captured').toList := by
          simp only [Array.toList_append]
          exact ((hfirst.mono hle).append (.cons (.yield hL .nil .nil) .nil)).append (hcapt.mono hle)
        cases hc : rc.call g (first.toList ++ [.func (.yield l) #[] #[]] ++ captured.toList) false .none st1 with
        | none => rw [hc] at h; cases h
        | some r =>
          obtain ⟨cr, ps2, st2⟩ := r
          rw [hc] at h
          obtain ⟨ρ2, w2, F, cs2, hle2, hw2, hps2, hsteps, hfn, hdf2, hkind, fn, hfun, hres⟩ := (hR G).call _ _ _ _ _ _ _ _ hc ρ1 w1 (first' ++ #[Value.func (.yield L.b) #[] #[]] ++ captured') (mkF b tm (mark ++ df) (.inRangeFunc L.b :: k) :: cs) hw1 hargs trivial
          obtain ⟨_, rfl⟩ := pstep_none hps2
          have hf2 := hf1.mono hle2
          cases cr with
          | ret v =>
            simp only at h hres
            obtain ⟨hmode, v', hres, _⟩ := hres
            have hst2 := step_leave_returned (P := C.P) (c := mkF b tm (mark ++ df) (.inRangeFunc L.b :: k)) (cs := cs) (w := w2) (fr := F) ⟨hmode, hdf2, hkind, fn, by rw [hfn]; exact hfun, hres⟩
            have hfin : (mkF b tm (mark ++ df) (.inRangeFunc L.b :: k)).finish v' = mkF b tm (mark ++ df) (.endRangeFunc L.b :: k) := rfl
            rw [hfin] at hst2
            split at h
            · rename_i al hal
              have hL2 := hle2 _ _ hL
              obtain ⟨lo, hlo, hl⟩ := hw2.obj _ _ _ hL2 hal
              have hnb : al.state ≠ .busy → ∃ y, jumpOf al.pending = some y ∧ (y, fr1, ps, st2.put l (.loop { al with state := .exhausted })) = (x, fr', ps', st') := by
                intro hne
                split at h
                · rename_i hb; exact absurd hb hne
                · split at h
                  · rename_i y hy; cases h; exact ⟨_, hy, rfl⟩
                  · cases h
              have hne : al.state ≠ .busy := by
                intro he
                rw [he] at h
                cases h
              obtain ⟨y, hy, he⟩ := hnb hne
              cases he
              have hend := run_endLoop (P := C.P) hlo (by rw [hl.state]; exact hne)
              have hw3 := hw2.putPlain (o2 := .loop { al with state := .exhausted }) (co := .loop { lo with state := .exhausted }) hL2 hal rfl rfl ⟨_, rfl, rfl, hl.pending, hl.fn, hl.tm, hl.params, hl.assign, hl.body, hl.defers, hl.ok⟩
              have hst3 := st_endRange (P := C.P) (b := b) (tm := tm) (df := mark ++ df) (k := k) (cs := cs) hend
              have hall := Steps.head hst1 (hsteps.trans (.head hst2 (.one hst3)))
              refine ⟨ρ2, _, tm, mark ++ df, cs, hle.trans hle2, hw3, hf2, .refl _ _, ?_⟩
              have hlp := hl.pending
              cases hpend : al.pending with
              | none =>
                rw [hpend] at hlp hy
                cases hy
                have he : (Option.map Item.code lo.pending).toList ++ k = k := by rw [hlp]; rfl
                rw [he] at hall
                exact hall
              | some j =>
                rw [hpend] at hlp hy
                have he : (Option.map Item.code lo.pending).toList ++ k = .code j :: k := by rw [hlp]; rfl
                rw [he] at hall
                cases j with
                | ret => cases hy; exact ⟨k, hall⟩
                | exit id => cases hy; exact ⟨k, hall, rfl⟩
                | _ => cases hy
            · cases h
          | pan v =>
            simp only at h hres
            cases h
            obtain ⟨v', hmode, hv⟩ := hres
            have hst2 := step_leave_panicked (P := C.P) (c := mkF b tm (mark ++ df) (.inRangeFunc L.b :: k)) (cs := cs) (w := w2) (fr := F) ⟨hmode, hdf2, fn, by rw [hfn]; exact hfun⟩
            exact ⟨ρ2, w2, tm, mark ++ df, cs, hle.trans hle2, hw2, hf2, .refl _ _, .inRangeFunc L.b :: k, v', hv, Steps.head hst1 (hsteps.trans (.one hst2))⟩
    · cases h
  | exit id =>
    intro fr ps st x fr' ps' st' h hok ρ w tm df cs k hw hf hp
    simp only [code, Option.some.injEq, Prod.mk.injEq] at h
    obtain ⟨rfl, rfl, rfl, rfl⟩ := h
    exact ⟨ρ, w, tm, df, cs, Ren.le_refl _, hw, hf, .refl _ _, k, .refl _ _, rfl⟩
  | ret =>
    intro fr ps st x fr' ps' st' h hok ρ w tm df cs k hw hf hp
    simp only [code, Option.some.injEq, Prod.mk.injEq] at h
    obtain ⟨rfl, rfl, rfl, rfl⟩ := h
    exact ⟨ρ, w, tm, df, cs, Ren.le_refl _, hw, hf, .refl _ _, k, .refl _ _⟩
  | scope _ _ => intro fr ps st x fr' ps' st' h; cases h
  | label _ => intro fr ps st x fr' ps' st' h; cases h
  | goto _ => intro fr ps st x fr' ps' st' h; cases h
  | refuse _ => intro fr ps st x fr' ps' st' h; cases h

end
end Go.AM

/- Calls: deferred calls, results, frames. -/
namespace Go.AM
open Go.RowKit (Below)

/-- how a frame leaves -/
def MRel (ρ : Ren) (m : Mode) (m' : FrameMode) : Prop :=
  match m with
  | .returning => m' = .returning
  | .panicking v => ∃ v', m' = .panicking [{ v := v', recovered := false }] ∧ VRel ρ v v'

theorem MRel.mono {ρ ρ' : Ren} (hle : ρ.le ρ') {m : Mode} {m' : FrameMode} (h : MRel ρ m m') : MRel ρ' m m' := by
  cases m with
  | returning => exact h
  | panicking v => obtain ⟨v', e, r⟩ := h; exact ⟨v', e, r.mono hle⟩

def psOf (m : Mode) : PanS := match m with | .returning => .none | .panicking v => .pend v

section
variable {P : Program} {F : Frame} {cs : List Frame} {w w1 : World}

theorem not_run {ρ : Ren} {m : Mode} {m' : FrameMode} (h : MRel ρ m m') : m' ≠ .run := by
  cases m with
  | returning => intro e; rw [e] at h; cases h
  | panicking v => obtain ⟨v', e, _⟩ := h; rw [e]; intro e; cases e

/-- the mark of a loop over a function is come to -/
theorem st_take {bl : Nat} {args : Array Value} {ds calls : List Deferred} (hm : F.mode ≠ .run) (hd : F.defers = { target := .collected bl, args } :: ds) (hr : (Instr.takeDeferred bl).run P w = .ok calls w1) :
    step P (lone F cs w) = .next (lone { F with defers := calls ++ ds } cs w1) := by
  refine step_lone_go ?_
  cases hmode : F.mode with
  | run => exact absurd hmode hm
  | returning => simp [stepG, hmode, unwind, hd, Sem.runT_eq, hr]
  | panicking ch => simp [stepG, hmode, unwind, hd, Sem.runT_eq, hr]

/-- a deferred call is entered -/
theorem st_deferred {f : FuncId} {args captured : Array Value} {ds : List Deferred} (hm : F.mode ≠ .run) (hd : F.defers = { target := .fn (.func f) captured, args } :: ds) (hr : (callFunc f (args ++ captured)).run P w = .ok (.enter f (args ++ captured)) w1) :
    step P (lone F cs w) = .next (lone (Frame.enter P f (args ++ captured) .deferred) ({ F with defers := ds } :: cs) w1) := by
  have hi : (invoke (.fn (.func f) captured) args).run P w = .ok (.enter f (args ++ captured)) w1 := hr
  refine step_lone_go ?_
  cases hmode : F.mode with
  | run => exact absurd hmode hm
  | returning => simp [stepG, hmode, unwind, hd, callDeferred, Sem.runT_eq, hi]
  | panicking ch => simp [stepG, hmode, unwind, hd, callDeferred, Sem.runT_eq, hi]

/-- the caller behind a deferred call -/
def afterDef (c : Frame) : Frame :=
  match c.mode with
  | .panicking ({ recovered := true, .. } :: older) =>
    match older.dropWhile (!·.goexit) with
    | [] => { c with mode := .returning }
    | rest => { c with mode := .panicking rest }
  | _ => c

theorem st_leave_deferred {c : Frame} {fn : Func} {v : Value} (hm : F.mode = .returning) (hd : F.defers = []) (hk : F.kind = .deferred) (hf : P.funcs[F.fn]? = some fn) (hr : (results fn F.tmps).run P w = .ok v w) :
    step P (lone F (c :: cs) w) = .next (lone (afterDef c) cs w) := by
  refine step_lone_go ?_
  simp [stepG, hm, unwind, hd, hf, Sem.runT_eq, hr, doReturn, hk, afterDef]
  rfl

end

section
variable {C : Ctx} {w0 : World} {N0 : Nat} {G : Nat → Prop} {rc : Rec} {b : FB}

theorem unwind_sound (hF : FOk C) (hR : RecOk C w0 N0 G rc) (tm : Array Value) (todo : List Item) (cs : List Frame) : ∀ (ds : List Deferred) (m : Mode) (st : St) (m1 : Mode) (st1 : St), unwindL C rc ds m st = some (m1, st1) →
    ∀ (ρ : Ren) (w : World) (df : List Deferred) (m' : FrameMode), WRel w0 N0 G ρ st w → DsRel ρ ds df → MRel ρ m m' →
    ∃ ρ' w' m1', ρ.le ρ' ∧ WRel w0 N0 G ρ' st1 w' ∧ MRel ρ' m1 m1' ∧ Steps C.P (lone { mkF b tm df todo with mode := m' } cs w) (lone { mkF b tm [] todo with mode := m1' } cs w') := by
  intro ds
  induction ds with
  | nil =>
    intro m st m1 st1 h ρ w df m' hw hd hm
    simp only [unwindL, Option.some.injEq, Prod.mk.injEq] at h
    obtain ⟨rfl, rfl⟩ := h
    cases df with
    | nil => exact ⟨ρ, w, m', Ren.le_refl _, hw, hm, .refl _ _⟩
    | cons d df => exact hd.elim
  | cons d ds ih =>
    intro m st m1 st1 h ρ w df m' hw hd hm
    cases df with
    | nil => exact hd.elim
    | cons d' df =>
    obtain ⟨hdr, hds⟩ := hd
    have htg := hdr.target
    obtain ⟨t, args⟩ := d
    obtain ⟨t', args'⟩ := d'
    simp only [unwindL] at h
    split at h
    · rename_i r
      split at h
      · rename_i hg
        cases t' with
        | collected r' =>
          obtain ⟨l, hl, rfl⟩ := htg
          have hobj : w.heap[l.b]? = some (.deferred (some [])) := hw.obj _ _ _ hl hg
          have hst := st_take (P := C.P) (F := { mkF b tm ({ target := .collected l.b, args := args' } :: df) todo with mode := m' }) (cs := cs) (not_run hm) rfl (run_takeDeferred hobj)
          have hw1 := hw.putPlain (o2 := .defl true) (co := .deferred none) hl hg rfl rfl rfl
          obtain ⟨ρ', w', m1', hle, hw', hm', hsteps⟩ := ih _ _ _ _ h ρ _ df m' hw1 hds hm
          exact ⟨ρ', w', m1', hle, hw', hm', .head hst hsteps⟩
        | _ => exact htg.elim
      · cases h
    · rename_i f captured
      split at h
      · rename_i fi v ps st2 hfi hc
        cases t' with
        | fn g captured' =>
          cases g with
          | func f' =>
            obtain ⟨rfl, hcapt⟩ := htg
            have hargs : VsRel ρ (args.toList ++ captured.toList) (args' ++ captured').toList := by
              simp only [Array.toList_append]
              exact hdr.args.append hcapt
            have hst := st_deferred (P := C.P) (F := { mkF b tm ({ target := .fn (.func f) captured', args := args' } :: df) todo with mode := m' }) (cs := cs) (not_run hm) rfl (callFunc_body (w := w) hF hfi _)
            have hpr : PRel ρ true (psOf m) ({ mkF b tm df todo with mode := m' } :: cs) := by
              cases m with
              | returning => exact ⟨_, _, rfl, hm⟩
              | panicking u => obtain ⟨v', e, r⟩ := hm; exact ⟨_, _, v', rfl, e, r⟩
            obtain ⟨ρ2, w2, F, cs2, hle2, hw2, hps2, hsteps, hfn, hdf2, hkind, fn, hfun, hmode, v', hres, _⟩ := hR.call _ _ _ _ _ _ _ _ hc ρ w (args' ++ captured') ({ mkF b tm df todo with mode := m' } :: cs) hw hargs hpr
            have hgoal : ∃ m2', MRel ρ2 (match m, ps with | .panicking _, .recd => .returning | m, _ => m) m2' ∧ step C.P (lone F cs2 w2) = .next (lone { mkF b tm df todo with mode := m2' } cs w2) := by
              rcases hps2 with ⟨rfl, rfl⟩ | ⟨u, hu, rfl, rfl⟩
              · refine ⟨m', ?_, ?_⟩
                · cases m <;> exact hm.mono hle2
                · rw [st_leave_deferred hmode hdf2 hkind (by rw [hfn]; exact hfun) hres]
                  cases m with
                  | returning =>
                    cases hm
                    rfl
                  | panicking u =>
                    obtain ⟨v', rfl, r⟩ := hm
                    rfl
              · cases m with
                | returning => cases hu
                | panicking u2 =>
                  obtain ⟨v', rfl, r⟩ := hm
                  refine ⟨.returning, rfl, ?_⟩
                  simp only [markRec]
                  rw [st_leave_deferred hmode hdf2 hkind (by rw [hfn]; exact hfun) hres]
                  rfl
            obtain ⟨m2', hm2, hst2⟩ := hgoal
            obtain ⟨ρ', w', m1', hle, hw', hm', hsteps2⟩ := ih _ _ _ _ h ρ2 w2 df m2' hw2 (hds.mono hle2) hm2
            exact ⟨ρ', w', m1', hle2.trans hle, hw', hm', .head hst (hsteps.trans (.head hst2 hsteps2))⟩
          | _ => exact htg.elim
        | _ => exact htg.elim
      · cases h
    · cases h

end
end Go.AM

/- Calls, second part: results, calls, rounds. -/
namespace Go.AM
open Go.RowKit (Below)

section
variable {C : Ctx} {w0 : World} {N0 : Nat} {G : Nat → Prop} {rc : Rec}

theorem resVal_sound (hT : TOk C) {ρ : Ren} {st : St} {w : World} {nt : Nat} {t : Tr Value} {tm : Array Value} (hw : WRel w0 N0 G ρ st w) (ht : TRel ρ nt t tm) {r : ResultVar} {v : Value} (h : resVal C t st r = some v) :
    ∃ v', ((match r with | .tmp t => pure (tm.getD t undef) | .cell a t => do loadVar t (← asAddr (tm.getD a undef))) : Sem Value).run C.P w = .ok v' w ∧ VRel ρ v v' := by
  cases r with
  | tmp x => exact ⟨_, rfl, ht.get h⟩
  | cell a ty =>
    simp only [resVal] at h
    split at h
    · rename_i p hp
      split at h
      · rename_i u s hl
        cases h
        have hpr := ht.get hp
        obtain ⟨v', hr, hv, _⟩ := load_sim hT hw hpr hl
        refine ⟨v', ?_, hv⟩
        unfold aLoad at hl
        split at hl
        · rename_i ti b o _
          obtain ⟨l, hb, hpe⟩ := ptr_inv hpr
          rw [hpe] at hr
          show (do loadVar ty (← asAddr (tm.getD a undef)) : Sem Value).run C.P w = .ok v' w
          rw [hpe]
          exact hr
        · cases hl
      · cases h
    · cases h

theorem resVals_sound (hT : TOk C) {ρ : Ren} {st : St} {w : World} {nt : Nat} {t : Tr Value} {tm : Array Value} (hw : WRel w0 N0 G ρ st w) (ht : TRel ρ nt t tm) : ∀ {l : List ResultVar} {vs : List Value}, resVals C t st l = some vs →
    ∃ vs', (l.mapM (fun r => (match r with | .tmp t => pure (tm.getD t undef) | .cell a t => do loadVar t (← asAddr (tm.getD a undef)) : Sem Value))).run C.P w = .ok vs' w ∧ VsRel ρ vs vs' := by
  intro l
  induction l with
  | nil => intro vs h; cases h; exact ⟨[], rfl, .nil⟩
  | cons r l ih =>
    intro vs h
    simp only [resVals] at h
    split at h
    · rename_i v vs1 h1 h2
      cases h
      obtain ⟨v', hr, hv⟩ := resVal_sound hT hw ht h1
      obtain ⟨vs', hrs, hvs⟩ := ih h2
      refine ⟨v' :: vs', ?_, .cons hv hvs⟩
      rw [List.mapM_cons, run_bind_ok _ hr, run_bind_ok _ hrs]
      rfl
    · cases h

theorem results_sound (hT : TOk C) {ρ : Ren} {st : St} {w : World} {nt : Nat} {t : Tr Value} {tm : Array Value} (hw : WRel w0 N0 G ρ st w) (ht : TRel ρ nt t tm) {fn : Func} {vs : List Value} (h : resVals C t st fn.results.toList = some vs) :
    ∃ v', (results fn tm).run C.P w = .ok v' w ∧ VRel ρ (finishV vs) v' := by
  obtain ⟨vs', hr, hv⟩ := resVals_sound hT hw ht h
  have hrun : (fn.results.mapM (fun r => (match r with | .tmp t => pure (tm.getD t undef) | .cell a t => do loadVar t (← asAddr (tm.getD a undef)) : Sem Value))).run C.P w = .ok vs'.toArray w := by
    rw [Array.mapM_eq_mapM_toList]
    show (Functor.map List.toArray _ : Sem (Array Value)).run C.P w = _
    rw [map_eq_pure_bind, run_bind_ok _ hr]
    rfl
  refine ⟨if h : vs'.toArray.size = 1 then vs'.toArray[0] else .tuple vs'.toArray, ?_, ?_⟩
  · unfold results
    exact (run_bind_ok _ hrun).trans rfl
  · have hlen := hv.length
    match vs, vs', hv with
    | [], [], _ => exact .tuple .nil
    | [v], [v'], .cons h _ => exact h
    | v :: u :: r, v' :: u' :: r', hv =>
      rw [dif_neg (by simp)]
      exact .tuple hv
    | [], _ :: _, hv => cases hv
    | _ :: _, [], hv => cases hv
    | [_], _ :: _ :: _, hv => cases hv with | cons _ t => cases t
    | _ :: _ :: _, [_], hv => cases hv with | cons _ t => cases t

theorem enter_rel (hF : FOk C) {ρ : Ren} {f : FuncId} {fi : FI} (hfi : C.ff.get f = some fi) {args : List Value} {args' : Array Value} (dfd : Bool) (hlen : args.length ≤ fi.nt) (h : VsRel ρ args args'.toList) :
    ∃ tm, Frame.enter C.P f args' (kindOf dfd) = mkF ⟨f, kindOf dfd, none⟩ tm [] [.code fi.body] ∧ FRel ρ ⟨f, fi.nt, none, dfd⟩ ⟨Tr.ofListFrom 0 args .nil, []⟩ ⟨f, kindOf dfd, none⟩ tm [] := by
  obtain ⟨fn, h1, h2, h3, _, _⟩ := hF.fn _ _ hfi
  have hl := h.length
  refine ⟨args' ++ Array.replicate (fi.nt - args'.size) undef, ?_, rfl, rfl, rfl, ⟨?_, fun i v hv => ?_⟩, trivial⟩
  · simp [Frame.enter, mkF, h1, h2, h3]
  · have : args'.size = args.length := by rw [hl]; simp
    simp; omega
  · have hv' : (Tr.ofListFrom 0 args .nil).get i = some v := hv
    rw [Tr.get_ofListFrom] at hv'
    split at hv'
    · rename_i hi
      have hsz : args'.size = args.length := by rw [hl]; simp
      obtain ⟨v', e, r⟩ := h.get (i := i) (by simpa using hv')
      refine ⟨v', ?_, r⟩
      rw [Array.getElem?_append_left (by omega)]
      simpa using e
    · rw [Tr.get_nil] at hv'; cases hv'


theorem call_sound (hT : TOk C) (hF : FOk C) (hE : ExtOk C) (hmix : C.P.follows .mixedOrders = true) (hB : ∀ f fi, C.ff.get f = some fi → codeOk fi.body = true) (hR : ∀ G, RecOk C w0 N0 G rc) {f : FuncId} {args : List Value} {dfd : Bool} {ps ps' : PanS} {st st' : St} {cr : CR}
    (h : callF C rc f args dfd ps st = some (cr, ps', st')) {ρ : Ren} {w : World} {args' : Array Value} {cs : List Frame} (hw : WRel w0 N0 G ρ st w) (hargs : VsRel ρ args args'.toList) (hp : PRel ρ dfd ps cs) : CallRes C w0 N0 G ρ f args' dfd ps cr ps' st' cs w := by
  unfold callF at h
  split at h
  · cases h
  · rename_i fi hfi
    split at h
    · cases h
    · rename_i hlen
      obtain ⟨tm, hent, hfr⟩ := enter_rel hF hfi dfd (Nat.le_of_ble_eq_true hlen) hargs
      obtain ⟨fn, hfun, _, _, hfres, _⟩ := hF.fn _ _ hfi
      -- what comes behind the body
      have fin : ∀ {m : Mode} {fr1 : Fr} {ps1 : PanS} {st1 : St} {ρ1 : Ren} {w1 : World} {tm1 : Array Value} {df1 : List Deferred} {cs1 : List Frame} {todo : List Item} {m' : FrameMode}, finish C rc fi m fr1 ps1 st1 = some (cr, ps', st') → ρ.le ρ1 → WRel w0 N0 G ρ1 st1 w1 →
          FRel ρ1 ⟨f, fi.nt, none, dfd⟩ fr1 ⟨f, kindOf dfd, none⟩ tm1 df1 → PStep ps ps1 cs cs1 → MRel ρ1 m m' →
          Steps C.P (lone (mkF ⟨f, kindOf dfd, none⟩ tm [] [.code fi.body]) cs w) (lone { mkF ⟨f, kindOf dfd, none⟩ tm1 df1 todo with mode := m' } cs1 w1) → CallRes C w0 N0 G ρ f args' dfd ps cr ps' st' cs w := by
        intro m fr1 ps1 st1 ρ1 w1 tm1 df1 cs1 todo m' h hle hw1 hf1 hps hm hst
        unfold finish at h
        split at h
        · cases h
        · rename_i v st2 hu
          cases h
          obtain ⟨ρ2, w2, m2, hle2, hw2, hm2, hst2⟩ := unwind_sound (b := ⟨f, kindOf dfd, none⟩) hF (hR G) tm1 todo cs1 _ _ _ _ _ hu ρ1 w1 df1 m' hw1 hf1.df hm
          obtain ⟨v', rfl, hv⟩ := hm2
          exact ⟨ρ2, w2, _, cs1, hle.trans hle2, hw2, hps, by rw [hent]; exact hst.trans hst2, rfl, rfl, rfl, fn, hfun, v', rfl, hv⟩
        · rename_i st2 hu
          split at h
          · rename_i vs hvs
            cases h
            obtain ⟨ρ2, w2, m2, hle2, hw2, hm2, hst2⟩ := unwind_sound (b := ⟨f, kindOf dfd, none⟩) hF (hR G) tm1 todo cs1 _ _ _ _ _ hu ρ1 w1 df1 m' hw1 hf1.df hm
            cases hm2
            rw [← hfres] at hvs
            obtain ⟨v', hr, hv⟩ := results_sound hT hw2 (hf1.tm.mono hle2) hvs
            exact ⟨ρ2, w2, _, cs1, hle.trans hle2, hw2, hps, by rw [hent]; exact hst.trans hst2, rfl, rfl, rfl, fn, hfun, rfl, v', hr, hv⟩
          · cases h
      cases hc : code C rc ⟨f, fi.nt, none, dfd⟩ fi.body ⟨Tr.ofListFrom 0 args .nil, []⟩ ps st with
      | none => rw [hc] at h; cases h
      | some r =>
        obtain ⟨x, fr1, ps1, st1⟩ := r
        rw [hc] at h
        obtain ⟨ρ1, w1, tm1, df1, cs1, hle, hw1, hf1, hps, harr⟩ := code_sound (b := ⟨f, kindOf dfd, none⟩) hT hF hE hmix hR fi.body _ _ _ _ _ _ _ hc (hB _ _ hfi) ρ w tm [] cs [] hw hfr hp
        cases x with
        | norm => exact fin h hle hw1 hf1 hps (m' := .returning) rfl (Steps.trans harr (.one (st_end rfl)))
        | ret =>
          obtain ⟨k1, hst⟩ := harr
          exact fin h hle hw1 hf1 hps (m' := .returning) rfl (Steps.trans hst (.one (st_ret rfl)))
        | panic v =>
          obtain ⟨k1, v', hv, hst⟩ := harr
          exact fin h hle hw1 hf1 hps (m' := .panicking [{ v := v', recovered := false }]) ⟨v', rfl, hv⟩ hst
        | exit id => cases h

theorem setParams_rel {ρ : Ren} {nt : Nat} : ∀ {ps : List Tmp} {vs : List Value} {t t' : Tr Value} {vs' : List Value} {tm : Array Value}, setParams ps vs nt t = some t' → VsRel ρ vs vs' → TRel ρ nt t tm →
    ps.length = vs'.length ∧ TRel ρ nt t' ((ps.zip vs').foldl (fun tmps (x : Tmp × Value) => tmps.setIfInBounds x.1 x.2) tm) := by
  intro ps
  induction ps with
  | nil =>
    intro vs t t' vs' tm h hv ht
    cases vs with
    | nil => cases hv; cases h; exact ⟨rfl, ht⟩
    | cons v vs => cases h
  | cons p ps ih =>
    intro vs t t' vs' tm h hv ht
    cases vs with
    | nil => cases h
    | cons v vs =>
      cases hv with
      | @cons _ v' _ vs' hv hvs =>
      simp only [setParams] at h
      split at h
      · rename_i hlt
        have hset := setDst_rel (fr := ⟨t, []⟩) (nt := nt) (dst := some p) (fr' := ⟨t.set p v, []⟩) ht hv (by simp only [setDst, hlt])
        obtain ⟨h1, h2⟩ := ih h hvs hset.1
        exact ⟨by simp [h1], h2⟩
      · cases h

end
end Go.AM

/- Rounds of loops over functions; the evaluator by depth; the call from outside. -/
namespace Go.AM
open Go.RowKit (Below)

section
variable {P : Program} {b : FB} {tm : Array Value} {df : List Deferred} {k : List Item} {cs : List Frame} {w w1 : World} {c : Frame}

theorem st_beginRound {l : Nat} (hb : b.round = some l) (hr : (Instr.beginRound l).run P w = .ok () w1) :
    step P (lone (mkF b tm df (.beginRound :: k)) cs w) = .next (lone (mkF b tm df k) cs w1) :=
  step_lone_go (by simp [stepG, stepG.exec, stepG.apply, mkF, hb, Sem.runT_eq, hr, Result.andThen, Frame.finish])

theorem st_round_end {l : Nat} {v : Value} (hb : b.round = some l) (hk : b.kind = .normal) (hr : (Instr.endRound l none).run P w = .ok v w1) :
    step P (lone (mkF b tm df []) (c :: cs) w) = .next (lone (c.finish v) cs w1) :=
  step_lone_go (by simp [stepG, stepG.exec, mkF, hb, hk, Sem.runT_eq, hr, doReturn])

theorem st_round_ret {l : Nat} {v : Value} (hb : b.round = some l) (hk : b.kind = .normal) (hr : (Instr.endRound l (some .ret)).run P w = .ok v w1) :
    step P (lone (mkF b tm df (.code .ret :: k)) (c :: cs) w) = .next (lone (c.finish v) cs w1) :=
  step_lone_go (by simp [stepG, stepG.exec, mkF, hb, hk, Sem.runT_eq, hr, doReturn])

theorem st_round_exit {l id : Nat} {v : Value} (hb : b.round = some l) (hk : b.kind = .normal) (hx : exitTo id k = none) (hr : (Instr.endRound l (some (.exit id))).run P w = .ok v w1) :
    step P (lone (mkF b tm df (.code (.exit id) :: k)) (c :: cs) w) = .next (lone (c.finish v) cs w1) :=
  step_lone_go (by simp [stepG, stepG.exec, mkF, hb, hk, hx, Sem.runT_eq, hr, doReturn])

end

section
variable {C : Ctx} {w0 : World} {N0 : Nat} {G : Nat → Prop} {rc : Rec}

theorem round_sound (hT : TOk C) (hF : FOk C) (hE : ExtOk C) (hmix : C.P.follows .mixedOrders = true) (hR : ∀ G, RecOk C w0 N0 G rc) {l : Nat} {args : List Value} {st st' : St} {cr : CR}
    (h : roundF C rc l args st = some (cr, st')) {ρ : Ren} {w : World} {L : Loc} {args' : Array Value} (hw : WRel w0 N0 G ρ st w) (hL : ρ l = some L) (hargs : VsRel ρ args args'.toList) : RoundRes C w0 N0 G ρ L args' cr st' w := by
  unfold roundF at h
  split at h
  · rename_i al hal
    split at h
    · cases h
    · cases h
    · rename_i fi tm hfi hset
      obtain ⟨lo, hlo, hl⟩ := hw.obj _ _ _ hL hal
      obtain ⟨fn, hfun, _, _, _, _⟩ := hF.fn _ _ hfi
      obtain ⟨hlen, htm⟩ := setParams_rel hset hargs hl.tm
      rw [← hl.params] at hlen htm
      have hsz : args'.size = lo.params.size := by simpa using hlen.symm
      have hy := run_yield (P := C.P) hlo hsz
      refine ⟨_, _, _, _, hy, fun c cs => ?_⟩
      have hfold : (lo.params.zip args').foldl (fun tmps (x : Tmp × Value) => tmps.setIfInBounds x.1 x.2) lo.tmps = (lo.params.toList.zip args'.toList).foldl (fun tmps (x : Tmp × Value) => tmps.setIfInBounds x.1 x.2) lo.tmps := by
        rw [← Array.foldl_toList, Array.toList_zip]
      rw [← hfold] at htm
      have hframe : Frame.round L.b lo.fn ((lo.params.zip args').foldl (fun tmps (x : Tmp × Value) => tmps.setIfInBounds x.1 x.2) lo.tmps) lo.assign lo.body .normal =
          mkF ⟨lo.fn, .normal, some L.b⟩ ((lo.params.zip args').foldl (fun tmps (x : Tmp × Value) => tmps.setIfInBounds x.1 x.2) lo.tmps) [] (.code al.assign :: [.beginRound, .code al.body]) := by
        rw [← hl.assign, ← hl.body]; rfl
      have hfr : FRel ρ ⟨al.fn, al.nt, some l, false⟩ ⟨tm, []⟩ ⟨lo.fn, .normal, some L.b⟩ ((lo.params.zip args').foldl (fun tmps (x : Tmp × Value) => tmps.setIfInBounds x.1 x.2) lo.tmps) [] := ⟨hl.fn, ⟨L, hL, rfl⟩, rfl, htm, trivial⟩
      have hrw : Frame.round L.b lo.fn ((lo.params.zip args').foldl (fun tmps (t, a) => tmps.setIfInBounds t a) lo.tmps) lo.assign lo.body .normal = mkF ⟨lo.fn, .normal, some L.b⟩ ((lo.params.zip args').foldl (fun tmps (x : Tmp × Value) => tmps.setIfInBounds x.1 x.2) lo.tmps) [] (.code al.assign :: [.beginRound, .code al.body]) := hframe
      rw [hrw]
      simp only at h
      cases hc : code C rc ⟨al.fn, al.nt, some l, false⟩ al.assign ⟨tm, []⟩ .none st with
      | none => rw [hc] at h; cases h
      | some r =>
        obtain ⟨x, fr1, ps1, st1⟩ := r
        rw [hc] at h
        have hcs := code_sound (b := ⟨lo.fn, .normal, some L.b⟩) hT hF hE hmix hR al.assign _ _ _ _ _ _ _ hc hl.ok.1 ρ w _ [] (c :: cs) [.beginRound, .code al.body] hw hfr trivial
        cases x with
        | exit id => cases h
        | ret => cases h
        | panic v => cases h
        | norm =>
          obtain ⟨ρ1, w1, tm1, df1, cs1, hle, hw1, hf1, hps, harr⟩ := hcs
          obtain ⟨_, rfl⟩ := pstep_none hps
          simp only at h
          split at h
          · rename_i al1 hal1
            split at h
            · rename_i hready
              have hL1 := hle _ _ hL
              obtain ⟨lo1, hlo1, hl1⟩ := hw1.obj _ _ _ hL1 hal1
              have hbr := run_beginRound (P := C.P) hlo1 (by rw [hl1.state]; exact hready)
              have hw2 := hw1.putPlain (o2 := .loop { al1 with state := .busy }) (co := .loop { lo1 with state := .busy }) hL1 hal1 rfl rfl ⟨_, rfl, rfl, hl1.pending, hl1.fn, hl1.tm, hl1.params, hl1.assign, hl1.body, hl1.defers, hl1.ok⟩
              have hst1 := Steps.trans harr (.one (st_beginRound (P := C.P) (b := ⟨lo.fn, .normal, some L.b⟩) (tm := tm1) (df := df1) (k := [.code al.body]) (cs := c :: cs) rfl hbr))
              cases hc2 : code C rc ⟨al.fn, al.nt, some l, false⟩ al.body fr1 .none (st1.put l (.loop { al1 with state := .busy })) with
              | none => rw [hc2] at h; cases h
              | some r2 =>
                obtain ⟨x2, fr2, ps2, st2⟩ := r2
                rw [hc2] at h
                obtain ⟨ρ2, w3, tm2, df2, cs2, hle2, hw3, hf2, hps2, harr2⟩ := code_sound (b := ⟨lo.fn, .normal, some L.b⟩) hT hF hE hmix hR al.body _ _ _ _ _ _ _ hc2 hl.ok.2 ρ1 _ tm1 df1 (c :: cs) [] hw2 hf1 trivial
                obtain ⟨_, rfl⟩ := pstep_none hps2
                have hL2 := hle2 _ _ hL1
                -- the end of the round
                have fin : ∀ (jump : Option Code) (al2 : ALoop), st2.get l = some (.loop al2) → ∃ w4, (Instr.endRound L.b jump).run C.P w3 = .ok (.bool jump.isNone) w4 ∧ WRel w0 N0 G ρ2 (st2.put l (.loop { al2 with state := if jump.isNone then .ready else .done, pending := jump })) w4 := by
                  intro jump al2 hal2
                  obtain ⟨lo2, hlo2, hl2⟩ := hw3.obj _ _ _ hL2 hal2
                  exact ⟨_, run_endRound jump hlo2, hw3.putPlain hL2 hal2 rfl rfl ⟨_, rfl, rfl, rfl, hl2.fn, hl2.tm, hl2.params, hl2.assign, hl2.body, hl2.defers, hl2.ok⟩⟩
                cases x2 with
                | norm =>
                  simp only at h
                  split at h
                  · rename_i al2 hal2 hdf
                    cases h
                    obtain ⟨w4, hr, hw4⟩ := fin none al2 hal2
                    exact ⟨ρ2, w4, hle.trans hle2, hw4, .bool true, .bool true, (hst1.trans harr2).trans (.one (st_round_end rfl rfl hr))⟩
                  · cases h
                | ret =>
                  obtain ⟨k1, hst⟩ := harr2
                  simp only at h
                  split at h
                  · rename_i al2 hal2 hdf
                    cases h
                    obtain ⟨w4, hr, hw4⟩ := fin (some .ret) al2 hal2
                    exact ⟨ρ2, w4, hle.trans hle2, hw4, .bool false, .bool false, (hst1.trans hst).trans (.one (st_round_ret rfl rfl hr))⟩
                  · cases h
                | exit id =>
                  obtain ⟨k1, hst, hk⟩ := harr2
                  simp only at h
                  split at h
                  · rename_i al2 hal2 hdf
                    cases h
                    obtain ⟨w4, hr, hw4⟩ := fin (some (.exit id)) al2 hal2
                    exact ⟨ρ2, w4, hle.trans hle2, hw4, .bool false, .bool false, (hst1.trans hst).trans (.one (st_round_exit rfl rfl hk hr))⟩
                  · cases h
                | panic v =>
                  obtain ⟨k1, v', hv, hst⟩ := harr2
                  simp only at h
                  split at h
                  · rename_i hdf
                    cases h
                    have hd := hf2.df
                    rw [hdf] at hd
                    have hd2 : df2 = [] := by
                      cases df2 with
                      | nil => rfl
                      | cons _ _ => exact hd.elim
                    subst hd2
                    refine ⟨ρ2, w3, hle.trans hle2, hw3, v', hv, (hst1.trans hst).trans (.one (step_leave_panicked ⟨rfl, rfl, fn, ?_⟩))⟩
                    show C.P.funcs[lo.fn]? = some fn
                    rw [hl.fn]; exact hfun
                  · cases h
            · cases h
          · cases h
  · cases h


/-- what is known of the functions that are not walked -/
def IntrOk (C : Ctx) (w0 : World) (N0 : Nat) (intr : FuncId → List Value → Option Value) : Prop :=
  ∀ f args v, intr f args = some v → flat v = true ∧ ∀ (ρ : Ren) (args' : Array Value) (w : World), VsRel ρ args args'.toList → Below N0 w0 w → N0 ≤ w.heap.size →
    Calls C.P f args' w fun e w' => e = .returned v ∧ Below w.heap.size w w'

theorem intr_sound {intr : FuncId → List Value → Option Value} (hI : IntrOk C w0 N0 intr) {f : FuncId} {args : List Value} {v : Value} (h : intr f args = some v) {ρ : Ren} {st : St} {w : World} {args' : Array Value} {cs : List Frame} {ps : PanS} (hw : WRel w0 N0 G ρ st w) (hargs : VsRel ρ args args'.toList) :
    CallRes C w0 N0 G ρ f args' false ps (.ret v) ps st cs w := by
  obtain ⟨hfl, hc⟩ := hI f args v h
  obtain ⟨e, w', fr, ⟨rfl, hb⟩, hsteps, hfn, hmode, hd, hk, fn, hfun, hres⟩ := hc ρ args' w hargs hw.below hw.big cs
  exact ⟨ρ, w', fr, cs, Ren.le_refl _, hw.junk hb, .refl _ _, hsteps, hfn, hd, hk, fn, by rw [← hfn]; exact hfun, hmode, v, hres, flat_rel hfl ρ⟩

theorem recN_ok (hT : TOk C) (hF : FOk C) (hE : ExtOk C) (hmix : C.P.follows .mixedOrders = true) (hB : ∀ f fi, C.ff.get f = some fi → codeOk fi.body = true) {intr : FuncId → List Value → Option Value} (hI : IntrOk C w0 N0 intr) : ∀ n G, RecOk C w0 N0 G (recN C intr n) := by
  intro n
  induction n with
  | zero =>
    intro G
    exact ⟨fun _ _ _ _ _ _ _ _ _ h => by (cases h), fun _ _ _ _ _ _ _ _ h => by (cases h), fun _ _ _ _ _ h => by (cases h)⟩
  | succ n ih =>
    intro G
    refine ⟨fun fc c fr ps st x fr' ps' st' h hok ρ w b tm df cs k hw hf hp => ?_, fun f args dfd ps st cr ps' st' h ρ w args' cs hw hargs hp => ?_, fun l args st cr st' h ρ w L args' hw hL hargs => ?_⟩
    · exact code_sound hT hF hE hmix ih c _ _ _ _ _ _ _ h hok ρ w tm df cs k hw hf hp
    · cases dfd with
      | true => exact call_sound hT hF hE hmix hB ih h hw hargs hp
      | false =>
        cases hv : intr f args with
        | none =>
          simp only [recN, hv] at h
          exact call_sound hT hF hE hmix hB ih h hw hargs hp
        | some v =>
          simp only [recN, hv] at h
          cases h
          exact intr_sound hI hv hw hargs
    · exact round_sound hT hF hE hmix ih h hw hL hargs

theorem flat_inv {ρ : Ren} {v v' : Value} (h : flat v = true) (r : VRel ρ v v') : v' = v := by
  cases r <;> first | rfl | cases h

/-- a run of the abstract machine is a call of the model's machine -/
theorem am_calls (hT : TOk C) (hF : FOk C) (hE : ExtOk C) (hmix : C.P.follows .mixedOrders = true) (hB : ∀ f fi, C.ff.get f = some fi → codeOk fi.body = true) {intr : FuncId → List Value → Option Value} {w : World} (hI : IntrOk C w w.heap.size intr)
    {n : Nat} {f : FuncId} {args : List Value} {v : Value} {ps : PanS} {st : St} (h : (recN C intr n).call f args false .none ⟨.nil, 0, .nil⟩ = some (.ret v, ps, st)) (hargs : args.all flat = true) (hv : flat v = true) :
    Calls C.P f args.toArray w fun e w' => e = .returned v ∧ Below w.heap.size w w' := by
  intro cs
  have hnil : ∀ x, (⟨.nil, 0, .nil⟩ : St).get x = none := fun x => Tr.get_nil x
  have hw : WRel w w.heap.size (fun _ => False) (fun _ => none) ⟨.nil, 0, .nil⟩ w := by
    refine ⟨⟨fun b o h => ?_, fun b c e f p h => ?_, fun f ms h => ?_⟩, .refl _ _, Nat.le_refl _, fun b h => h.elim, fun b l h => by (cases h), fun b l o h => by (cases h), fun b b' l l' o o' h => by (cases h)⟩
    · rw [hnil] at h; cases h
    · rw [hnil] at h; cases h
    · have : (Tr.nil : Tr (List Nat)).get f = some ms := h
      rw [Tr.get_nil] at this; cases this
  obtain ⟨ρ', w', F, cs', hle, hw', hps, hsteps, hfn, hdf, hk, fn, hfun, hm, v', hres, hvr⟩ := (recN_ok hT hF hE hmix hB hI n (fun _ => False)).call _ _ _ _ _ _ _ _ h (fun _ => none) w args.toArray cs hw (by simpa using flats_rel hargs _) trivial
  obtain ⟨_, rfl⟩ := pstep_none hps
  have := flat_inv hv hvr
  subst this
  exact ⟨.returned v', w', F, ⟨rfl, hw'.below⟩, hsteps, hfn, hm, hdf, hk, fn, by rw [hfn]; exact hfun, hres⟩

end
end Go.AM

/- Facts about every entry of a table. -/
namespace Go.AM

/-- p at every entry, with its key: the keys below here are mul * k + add -/
def Tr.Each {α : Type} (p : Nat → α → Prop) : Nat → Nat → Tr α → Prop
  | _, _, .nil => True
  | mul, add, .node v l r => (match v with | some x => p add x | none => True) ∧ Tr.Each p (2 * mul) (mul + add) l ∧ Tr.Each p (2 * mul) (2 * mul + add) r

theorem Tr.Each.getF {α : Type} {p : Nat → α → Prop} : ∀ (t : Tr α) (mul add k n : Nat), n ≤ k → Tr.Each p mul add t → ∀ v, Tr.getP (pathF k n) t = some v → p (mul * n + add) v := by
  intro t
  induction t with
  | nil => intro mul add k n _ _ v h; rw [Tr.getP_nil] at h; cases h
  | node o l r ihl ihr =>
    intro mul add k n hk h v hv
    obtain ⟨h1, h2, h3⟩ := h
    cases k with
    | zero =>
      have : n = 0 := by omega
      subst this
      simp only [pathF, Tr.getP] at hv
      subst hv
      simpa using h1
    | succ k =>
      cases n with
      | zero =>
        simp only [pathF, Tr.getP] at hv
        subst hv
        simpa using h1
      | succ m =>
        simp only [pathF] at hv
        cases hb : Nat.beq (m % 2) 0 with
        | true =>
          rw [hb] at hv
          simp only [Tr.getP] at hv
          have := ihl _ _ k (m / 2) (by omega) h2 v hv
          have hm := Nat.eq_of_beq_eq_true hb
          have e : 2 * mul * (m / 2) + (mul + add) = mul * (m + 1) + add := by
            have hq : m = 2 * (m / 2) := by omega
            generalize m / 2 = q at hq
            subst hq
            rw [Nat.mul_add, Nat.mul_comm 2 mul, Nat.mul_assoc]
            omega
          rw [← e]; exact this
        | false =>
          rw [hb] at hv
          simp only [Tr.getP] at hv
          have := ihr _ _ k (m / 2) (by omega) h3 v hv
          have hm := Nat.ne_of_beq_eq_false hb
          have e : 2 * mul * (m / 2) + (2 * mul + add) = mul * (m + 1) + add := by
            have hq : m = 2 * (m / 2) + 1 := by omega
            generalize m / 2 = q at hq
            subst hq
            rw [Nat.mul_add, Nat.mul_add, Nat.mul_comm 2 mul, Nat.mul_assoc]
            omega
          rw [← e]; exact this

theorem Tr.Each.get {α : Type} {p : Nat → α → Prop} {t : Tr α} (h : Tr.Each p 1 0 t) {n : Nat} {v : α} (hv : t.get n = some v) : p n v := by
  have := Tr.Each.getF t 1 0 n n (Nat.le_refl _) h v hv
  simpa using this

end Go.AM

/- What the model's own entries for bytealg compute, in a form that the kernel runs; and that it is the shelf's. -/
namespace Go.AM

def indexByte : List UInt8 → Nat → Nat → Int
  | [], _, _ => -1
  | x :: r, c, i => match Nat.beq x.toNat c with | true => .ofNat i | false => indexByte r c (i + 1)
def isPre : List UInt8 → List UInt8 → Bool
  | [], _ => true
  | _, [] => false
  | a :: x, b :: y => match Nat.beq a.toNat b.toNat with | true => isPre x y | false => false
def hasSub (sub : List UInt8) : List UInt8 → Bool
  | [] => match sub with | [] => true | _ => false
  | x :: r => match isPre sub (x :: r) with | true => true | false => hasSub sub r
def cmpB (a b : List UInt8) : Int := match bytesLt a b with | true => -1 | false => match bytesEq a b with | true => 0 | false => 1
def countB (c : Nat) : List UInt8 → Nat
  | [] => 0
  | x :: r => match Nat.beq x.toNat c with | true => countB c r + 1 | false => countB c r

theorem byte_beq (x : UInt8) {c : Nat} (hc : c < 256) : (x == c.toUInt8) = Nat.beq x.toNat c := by
  rw [Bool.eq_iff_iff]
  simp only [beq_iff_eq, Nat.beq_eq]
  constructor
  · rintro rfl
    simp [Nat.mod_eq_of_lt hc]
  · intro h
    apply UInt8.toNat_inj.1
    simp [Nat.mod_eq_of_lt hc, h]

theorem byte_beq' (x y : UInt8) : (x == y) = Nat.beq x.toNat y.toNat := by
  rw [Bool.eq_iff_iff]
  simp only [beq_iff_eq, Nat.beq_eq]
  exact ⟨fun h => h ▸ rfl, fun h => UInt8.toNat_inj.1 h⟩

theorem byte_lt (x y : UInt8) : Nat.blt x.toNat y.toNat = decide (x < y) := by
  rw [Bool.eq_iff_iff, decide_eq_true_eq, UInt8.lt_iff_toNat_lt]
  show Nat.ble (x.toNat + 1) y.toNat = true ↔ _
  rw [Nat.ble_eq]
  exact Iff.rfl

theorem indexByte_eq {c : Nat} (hc : c < 256) : ∀ (l : List UInt8) (off : Nat), indexByte l c off = if Lib.indexByte l c.toUInt8 = -1 then -1 else (off : Int) + Lib.indexByte l c.toUInt8 := by
  intro l
  induction l with
  | nil => intro off; rfl
  | cons x l ih =>
    intro off
    simp only [indexByte, Lib.indexByte, byte_beq x hc]
    cases Nat.beq x.toNat c with
    | true => simp
    | false =>
      simp only [ih, Bool.false_eq_true, if_false, beq_iff_eq]
      have hge := Lib.indexByte_ge l c.toUInt8
      by_cases h : Lib.indexByte l c.toUInt8 = -1
      · simp [h]
      · rw [if_neg h, if_neg h, if_neg (by omega)]
        omega

theorem indexByte_lib {c : Nat} (hc : c < 256) (l : List UInt8) : indexByte l c 0 = Lib.indexByte l c.toUInt8 := by
  rw [indexByte_eq hc]
  split
  · rename_i h; exact h.symm
  · simp

theorem countB_lib {c : Nat} (hc : c < 256) (l : List UInt8) : countB c l = Lib.countByte l c.toUInt8 := by
  unfold Lib.countByte
  induction l with
  | nil => rfl
  | cons x l ih =>
    rw [List.count_cons, byte_beq x hc]
    simp only [countB]
    cases Nat.beq x.toNat c with
    | true => simp [ih]
    | false => simp [ih]

theorem cmpB_lib : ∀ (a b : List UInt8), cmpB a b = Lib.compareBytes a b := by
  intro a
  induction a with
  | nil => intro b; cases b <;> rfl
  | cons x a ih =>
    intro b
    cases b with
    | nil => rfl
    | cons y b =>
      have ih := ih b
      unfold cmpB at ih ⊢
      simp only [Lib.compareBytes, bytesLt, bytesEq, byte_lt]
      by_cases h : x < y
      · simp [h]
      · simp only [h, decide_false, if_false]
        by_cases he : x = y
        · subst he
          simp only [Nat.beq_refl, h, if_false]
          exact ih
        · have hb : Nat.beq x.toNat y.toNat = false := by
            rw [← byte_beq']; simpa using he
          have hlt : y < x := UInt8.lt_of_le_of_ne (UInt8.not_lt.1 h) (Ne.symm he)
          simp [hb, hlt]

theorem isPre_lib : ∀ (a b : List UInt8), isPre a b = a.isPrefixOf b := by
  intro a
  induction a with
  | nil => intro b; cases b <;> simp [isPre]
  | cons x a ih =>
    intro b
    cases b with
    | nil => simp [isPre]
    | cons y b =>
      simp only [isPre, List.isPrefixOf_cons_cons, byte_beq' x y, ih]
      cases Nat.beq x.toNat y.toNat <;> simp

theorem hasSub_lib (sub : List UInt8) : ∀ (s : List UInt8), hasSub sub s = Lib.contains s sub := by
  intro s
  unfold Lib.contains
  induction s with
  | nil => cases sub <;> simp [hasSub, Lib.index]
  | cons x s ih =>
    rw [Bool.eq_iff_iff, decide_eq_true_eq] at ih ⊢
    have hi : Lib.index (x :: s) sub = if sub.isPrefixOf (x :: s) then 0 else if Lib.index s sub == -1 then -1 else Lib.index s sub + 1 := rfl
    have hs : hasSub sub (x :: s) = match isPre sub (x :: s) with | true => true | false => hasSub sub s := rfl
    rw [isPre_lib] at hs
    have hge := Lib.index_ge s sub
    by_cases hp : sub.isPrefixOf (x :: s) = true
    · rw [if_pos hp] at hi
      rw [hp] at hs
      rw [hi, hs]; simp
    · rw [if_neg hp] at hi
      rw [Bool.not_eq_true] at hp
      rw [hp] at hs
      rw [hi, hs]
      show hasSub sub s = true ↔ _
      rw [ih]
      by_cases h : Lib.index s sub = -1
      · simp [h]
      · rw [if_neg (by simpa using h)]; omega

end Go.AM

