/- The model's machine at single steps, and regions whose order is open. -/
import Derived.Test.YthfehkcfhiilfaaGreatDoorKAmB
namespace Go.AM
open Go.RowKit (Below)
structure FB where
 fn : FuncId
 kind : CallKind
 round : Option Nat
def mkF (b : FB) (tm : Array Value) (df : List Deferred) (todo : List Item) : Frame :=
 { fn := b.fn, tmps := tm, todo, defers := df, mode := .run, kind := b.kind, roundOf := b.round }
def evF (tm : Array Value) : Operand -> Value
 | .tmp t => tm.getD t undef
 | .const v => v
 | .global g => .pointer (some ⟨g, 0, none⟩)
 | .func f => .func (.func f) #[] #[]
theorem eval_mkF (b : FB) (tm : Array Value) (df : List Deferred) (todo : List Item) : (mkF b tm df todo).eval = evF tm := by
 funext x
 cases x <;> rfl
section
variable {P : Program} {b : FB} {tm : Array Value} {df : List Deferred} {k : List Item} {cs : List Frame} {w : World}
theorem st_skip : step P (lone (mkF b tm df (.code .skip :: k)) cs w) = .next (lone (mkF b tm df k) cs w) :=
 step_lone_go (by simp [stepG, stepG.exec, mkF])
theorem st_inBlock {id : Nat} : step P (lone (mkF b tm df (.inBlock id :: k)) cs w) = .next (lone (mkF b tm df k) cs w) :=
 step_lone_go (by simp [stepG, stepG.exec, mkF])
theorem st_seq {x y : Code} : step P (lone (mkF b tm df (.code (.seq x y) :: k)) cs w) = .next (lone (mkF b tm df (.code x :: .code y :: k)) cs w) :=
 step_lone_go (by simp [stepG, stepG.exec, mkF])
theorem st_cond {c : Operand} {x y : Code} {t : Bool} (h : evF tm c = .bool t) :
  step P (lone (mkF b tm df (.code (.cond c x y) :: k)) cs w) = .next (lone (mkF b tm df (.code (if t then x else y) :: k)) cs w) :=
 step_lone_go (by
  have := congrFun (eval_mkF b tm df (.code (.cond c x y) :: k)) c
  simp only [mkF] at this
  simp [stepG, stepG.exec, mkF, this, h])
theorem st_block {id : Nat} {c : Code} : step P (lone (mkF b tm df (.code (.block id c) :: k)) cs w) = .next (lone (mkF b tm df (.code c :: .inBlock id :: k)) cs w) :=
 step_lone_go (by simp [stepG, stepG.exec, mkF])
theorem st_loop {c : Code} : step P (lone (mkF b tm df (.code (.loop c) :: k)) cs w) = .next (lone (mkF b tm df (.code c :: .inLoop c :: k)) cs w) :=
 step_lone_go (by simp [stepG, stepG.exec, mkF])
theorem st_inLoop {c : Code} : step P (lone (mkF b tm df (.inLoop c :: k)) cs w) = .next (lone (mkF b tm df (.code c :: .inLoop c :: k)) cs w) :=
 step_lone_go (by simp [stepG, stepG.exec, mkF])
theorem st_exit {id : Nat} {k' : List Item} (h : exitTo id k = some k') : step P (lone (mkF b tm df (.code (.exit id) :: k)) cs w) = .next (lone (mkF b tm df k') cs w) :=
 step_lone_go (by simp [stepG, stepG.exec, mkF, h])
theorem st_ret (hr : b.round = none) : step P (lone (mkF b tm df (.code .ret :: k)) cs w) = .next (lone { mkF b tm df (.code .ret :: k) with mode := .returning } cs w) :=
 step_lone_go (by simp [stepG, stepG.exec, mkF, hr])
theorem st_end (hr : b.round = none) : step P (lone (mkF b tm df []) cs w) = .next (lone { mkF b tm df [] with mode := .returning } cs w) :=
 step_lone_go (by simp [stepG, stepG.exec, mkF, hr])
theorem st_region {id : Nat} {ops : Array Oper} : step P (lone (mkF b tm df (.code (.region id ops false) :: k)) cs w) = .next (lone (mkF b tm df (.inRegion ops (List.range ops.size) :: k)) cs w) :=
 step_lone_go (by simp [stepG, stepG.exec, mkF])
theorem st_region_draw {id : Nat} {ops : Array Oper} : step P (lone (mkF b tm df (.code (.region id ops true) :: k)) cs w) =
   .next (lone (mkF b tm df (.inRegion ops (Region.schedule (P.follows .mixedOrders) ops (w.tape w.drawn (.order b.fn id))) :: k)) cs { w with drawn := w.drawn + 1 }) :=
 step_lone_go (by simp [stepG, stepG.exec, mkF, choose, Sem.run, Question.forced, Question.cut])
theorem st_region_end {ops : Array Oper} : step P (lone (mkF b tm df (.inRegion ops [] :: k)) cs w) = .next (lone (mkF b tm df k) cs w) :=
 step_lone_go (by simp [stepG, stepG.exec, mkF])
def putT (tm : Array Value) (dst : Option Tmp) (v : Value) : Array Value :=
 match dst with
 | some d => tm.setIfInBounds d v
 | none => tm
theorem finish_mkF {ops : Array Oper} {i : Nat} {rest : List Nat} {o : Oper} (ho : ops[i]? = some o) (v : Value) :
  (mkF b tm df (.inRegion ops (i :: rest) :: k)).finish v = mkF b (putT tm o.dst v) df (.inRegion ops rest :: k) := by
 cases hd : o.dst <;> simp [Frame.finish, mkF, putT, ho, hd]
theorem st_unwanted {ops : Array Oper} {i : Nat} {rest : List Nat} {o : Oper} (ho : ops[i]? = some o) (hw : Region.wanted o (yielded ops tm) = false) :
  step P (lone (mkF b tm df (.inRegion ops (i :: rest) :: k)) cs w) = .next (lone (mkF b (putT tm o.dst undef) df (.inRegion ops rest :: k)) cs w) := by
 rw [<- finish_mkF ho]
 exact step_lone_go (by
  simp only [mkF]
  simp [stepG, stepG.exec, ho, hw])
theorem stepG_oper {ops : Array Oper} {i : Nat} {rest : List Nat} {o : Oper} (ho : ops[i]? = some o) (hw : Region.wanted o (yielded ops tm) = true) (hd : b.round = none ∨ ∀ c, o.op ≠ .defer c) :
  stepG P true { frame := mkF b tm df (.inRegion ops (i :: rest) :: k), callers := cs, status := .running, dying := none } w =
   stepG.apply P true (mkF b tm df (.inRegion ops (i :: rest) :: k)) cs none (execOp (evF tm) o) w := by
 have he := eval_mkF b tm df (.inRegion ops (i :: rest) :: k)
 simp only [mkF] at he
 have hor : (match b.round, o.op with
   | some l, .defer c => stepG.apply P true (mkF b tm df (.inRegion ops (i :: rest) :: k)) cs none (do Instr.deferInRound l (<- resolve (evF tm) c o.type); pure .skip) w
   | _, _ => stepG.apply P true (mkF b tm df (.inRegion ops (i :: rest) :: k)) cs none (execOp (evF tm) o) w) = stepG.apply P true (mkF b tm df (.inRegion ops (i :: rest) :: k)) cs none (execOp (evF tm) o) w := by
  split
  ·rename_i l c e1 e2
   rcases hd with h | h
   ·rw [h] at e1; cases e1
   ·exact absurd e2 (h c)
  ·rfl
 rw [<- hor]
 simp [stepG, stepG.exec, stepG.oper, Frame.oper?, mkF, ho, hw, he]
 rfl
theorem st_value {ops : Array Oper} {i : Nat} {rest : List Nat} {o : Oper} (ho : ops[i]? = some o) (hw : Region.wanted o (yielded ops tm) = true) (hd : b.round = none ∨ ∀ c, o.op ≠ .defer c) {v : Value} {w' : World}
  (h : (execOp (evF tm) o).run P w = .ok (.value v) w' ∨ ((execOp (evF tm) o).run P w = .ok .skip w' /\ v = undef)) :
  step P (lone (mkF b tm df (.inRegion ops (i :: rest) :: k)) cs w) = .next (lone (mkF b (putT tm o.dst v) df (.inRegion ops rest :: k)) cs w') := by
 rw [<- finish_mkF ho]
 refine step_lone_go ?_
 rw [stepG_oper ho hw hd]
 rcases h with h | ⟨h, rfl⟩
 ·simp [stepG.apply, h]
 ·simp [stepG.apply, h]
theorem st_enter {ops : Array Oper} {i : Nat} {rest : List Nat} {o : Oper} (ho : ops[i]? = some o) (hw : Region.wanted o (yielded ops tm) = true) (hd : b.round = none ∨ ∀ c, o.op ≠ .defer c) {f : FuncId} {args : Array Value} {w' : World}
  (h : (execOp (evF tm) o).run P w = .ok (.enter f args) w') :
  step P (lone (mkF b tm df (.inRegion ops (i :: rest) :: k)) cs w) = .next (lone (Frame.enter P f args .normal) (mkF b tm df (.inRegion ops (i :: rest) :: k) :: cs) w') := by
 refine step_lone_go ?_
 rw [stepG_oper ho hw hd]
 simp [stepG.apply, h, mkF]
theorem st_round {ops : Array Oper} {i : Nat} {rest : List Nat} {o : Oper} (ho : ops[i]? = some o) (hw : Region.wanted o (yielded ops tm) = true) (hd : b.round = none ∨ ∀ c, o.op ≠ .defer c) {l : Nat} {f : FuncId} {tmps : Array Value} {assign body : Code} {w' : World}
  (h : (execOp (evF tm) o).run P w = .ok (.round l f tmps assign body) w') :
  step P (lone (mkF b tm df (.inRegion ops (i :: rest) :: k)) cs w) = .next (lone (Frame.round l f tmps assign body .normal) (mkF b tm df (.inRegion ops (i :: rest) :: k) :: cs) w') := by
 refine step_lone_go ?_
 rw [stepG_oper ho hw hd]
 simp [stepG.apply, h]
theorem st_defer {ops : Array Oper} {i : Nat} {rest : List Nat} {o : Oper} (ho : ops[i]? = some o) (hw : Region.wanted o (yielded ops tm) = true) (hd : b.round = none) {d : Deferred} {w' : World}
  (h : (execOp (evF tm) o).run P w = .ok (.defer d) w') :
  step P (lone (mkF b tm df (.inRegion ops (i :: rest) :: k)) cs w) = .next (lone (mkF b (putT tm o.dst undef) (d :: df) (.inRegion ops rest :: k)) cs w') := by
 rw [<- finish_mkF (df := d :: df) ho]
 refine step_lone_go ?_
 rw [stepG_oper ho hw (.inl hd)]
 simp [stepG.apply, h, mkF]
theorem st_panic {ops : Array Oper} {i : Nat} {rest : List Nat} {o : Oper} (ho : ops[i]? = some o) (hw : Region.wanted o (yielded ops tm) = true) (hd : b.round = none ∨ ∀ c, o.op ≠ .defer c) {v : Value} {w' : World}
  (h : (execOp (evF tm) o).run P w = .halt (.panic v) w') :
  step P (lone (mkF b tm df (.inRegion ops (i :: rest) :: k)) cs w) = .next (lone { mkF b tm df (.inRegion ops (i :: rest) :: k) with mode := .panicking [{ v, recovered := false }] } cs w') := by
 refine step_lone_go ?_
 rw [stepG_oper ho hw hd]
 simp [stepG.apply, h, mkF, Frame.raise]
def markRec : List Frame -> List Frame
 | [] => []
 | c :: r => (match c.mode with
  | .panicking ({ v, recovered := false, goexit := false } :: older) => { c with mode := .panicking ({ v, recovered := true } :: older) }
  | _ => c) :: r
theorem st_recover_none {ops : Array Oper} {i : Nat} {rest : List Nat} {o : Oper} (ho : ops[i]? = some o) (hw : Region.wanted o (yielded ops tm) = true) (hd : b.round = none) {w' : World}
  (h : (execOp (evF tm) o).run P w = .ok .recover w') (hn : tryRecover (mkF b tm df (.inRegion ops (i :: rest) :: k)) cs = none) :
  step P (lone (mkF b tm df (.inRegion ops (i :: rest) :: k)) cs w) = .next (lone (mkF b (putT tm o.dst .nilIface) df (.inRegion ops rest :: k)) cs w') := by
 rw [<- finish_mkF ho]
 refine step_lone_go ?_
 rw [stepG_oper ho hw (.inl hd)]
 have hr : (mkF b tm df (.inRegion ops (i :: rest) :: k)).roundOf = none := hd
 simp [stepG.apply, h, hr, hn]
theorem st_recover_some {ops : Array Oper} {i : Nat} {rest : List Nat} {o : Oper} (ho : ops[i]? = some o) (hw : Region.wanted o (yielded ops tm) = true) (hd : b.round = none) {w' : World} {v : Value} {cs' : List Frame}
  (h : (execOp (evF tm) o).run P w = .ok .recover w') (hn : tryRecover (mkF b tm df (.inRegion ops (i :: rest) :: k)) cs = some (v, cs')) :
  step P (lone (mkF b tm df (.inRegion ops (i :: rest) :: k)) cs w) = .next (lone (mkF b (putT tm o.dst v) df (.inRegion ops rest :: k)) cs' w') := by
 rw [<- finish_mkF ho]
 refine step_lone_go ?_
 rw [stepG_oper ho hw (.inl hd)]
 have hr : (mkF b tm df (.inRegion ops (i :: rest) :: k)).roundOf = none := hd
 simp [stepG.apply, h, hr, hn]
end
open Go.RowKit (Below)
def DsRel (ρ : Ren) : List Deferred -> List Deferred -> Prop
 | [], [] => True
 | d :: r, d' :: r' => DRel ρ d d' /\ DsRel ρ r r'
 | _, _ => False
def RndRel (ρ : Ren) (r : Option Nat) (b : FB) : Prop :=
 match r with
 | none => b.round = none
 | some l => ∃ L, ρ l = some L /\ b.round = some L.b
def kindOf (dfd : Bool) : CallKind := if dfd then .deferred else .normal
structure FRel (ρ : Ren) (fc : FC) (fr : Fr) (b : FB) (tm : Array Value) (df : List Deferred) : Prop where
 fn : b.fn = fc.fn
 round : RndRel ρ fc.round b
 kind : b.kind = kindOf fc.dfd
 tm : TRel ρ fc.nt fr.tm tm
 df : DsRel ρ fr.df df
def PRel (ρ : Ren) (dfd : Bool) (ps : PanS) (cs : List Frame) : Prop :=
 match dfd, ps with
 | false, _ => True
 | true, .none => ∃ c r, cs = c :: r /\ c.mode = .returning
 | true, .pend v => ∃ c r v', cs = c :: r /\ c.mode = .panicking [{ v := v', recovered := false }] /\ VRel ρ v v'
 | true, .recd => ∃ c r v', cs = c :: r /\ c.mode = .panicking [{ v := v', recovered := true }]
def PStep (ps ps' : PanS) (cs cs' : List Frame) : Prop :=
 (ps' = ps /\ cs' = cs) ∨ (∃ v, ps = .pend v /\ ps' = .recd /\ cs' = markRec cs)
theorem PStep.refl (ps : PanS) (cs : List Frame) : PStep ps ps cs cs := .inl ⟨rfl, rfl⟩
theorem PStep.trans {a b c : PanS} {x y z : List Frame} (h : PStep a b x y) (k : PStep b c y z) : PStep a c x z := by
 rcases h with ⟨rfl, rfl⟩ | ⟨v, rfl, rfl, rfl⟩
 ·exact k
 ·rcases k with ⟨rfl, rfl⟩ | ⟨v', e, _, _⟩
  ·exact .inr ⟨v, rfl, rfl, rfl⟩
  ·cases e
theorem PRel.step {ρ : Ren} {dfd : Bool} {ps ps' : PanS} {cs cs' : List Frame} (h : PRel ρ dfd ps cs) (k : PStep ps ps' cs cs') : PRel ρ dfd ps' cs' := by
 rcases k with ⟨rfl, rfl⟩ | ⟨v, rfl, rfl, rfl⟩
 ·exact h
 ·cases dfd with
  | false => trivial
  | true =>
   obtain ⟨c, r, v', rfl, hm, _⟩ := h
   exact ⟨{ c with mode := .panicking [{ v := v', recovered := true }] }, r, v', by simp [markRec, hm], rfl⟩
theorem PRel.mono {ρ ρ' : Ren} (hle : ρ.le ρ') {dfd : Bool} {ps : PanS} {cs : List Frame} (h : PRel ρ dfd ps cs) : PRel ρ' dfd ps cs := by
 cases dfd with
 | false => trivial
 | true =>
  cases ps with
  | none => exact h
  | pend v => obtain ⟨c, r, v', e, hm, hv⟩ := h; exact ⟨c, r, v', e, hm, hv.mono hle⟩
  | recd => exact h
theorem TgRel.mono {ρ ρ' : Ren} (hle : ρ.le ρ') {t t' : Target} (h : TgRel ρ t t') : TgRel ρ' t t' := by
 unfold TgRel at h ⊢
 split at h
 ·obtain ⟨l, e, r⟩ := h; exact ⟨l, hle _ _ e, r⟩
 ·exact ⟨h.1, h.2.mono hle⟩
 ·exact h.elim
theorem DsRel.mono {ρ ρ' : Ren} (hle : ρ.le ρ') : ∀ {a b : List Deferred}, DsRel ρ a b -> DsRel ρ' a b
 | [], [], _ => trivial
 | _ :: _, _ :: _, ⟨h, r⟩ => ⟨⟨h.target.mono hle, h.args.mono hle⟩, DsRel.mono hle r⟩
 | [], _ :: _, k => k.elim
 | _ :: _, [], k => k.elim
theorem RndRel.mono {ρ ρ' : Ren} (hle : ρ.le ρ') {r : Option Nat} {b : FB} (h : RndRel ρ r b) : RndRel ρ' r b := by
 cases r with
 | none => exact h
 | some l => obtain ⟨L, e, k⟩ := h; exact ⟨L, hle _ _ e, k⟩
theorem FRel.mono {ρ ρ' : Ren} (hle : ρ.le ρ') {fc : FC} {fr : Fr} {b : FB} {tm : Array Value} {df : List Deferred} (h : FRel ρ fc fr b tm df) : FRel ρ' fc fr b tm df :=
 ⟨h.fn, h.round.mono hle, h.kind, h.tm.mono hle, h.df.mono hle⟩
def Arr (P : Program) (m : Machine) (ρ : Ren) (b : FB) (k : List Item) (tm : Array Value) (df : List Deferred) (cs : List Frame) (w : World) : Ex -> Prop
 | .norm => Steps P m (lone (mkF b tm df k) cs w)
 | .exit id => ∃ k1, Steps P m (lone (mkF b tm df (.code (.exit id) :: k1)) cs w) /\ exitTo id k1 = exitTo id k
 | .ret => ∃ k1, Steps P m (lone (mkF b tm df (.code .ret :: k1)) cs w)
 | .panic v => ∃ k1 v', VRel ρ v v' /\ Steps P m (lone { mkF b tm df k1 with mode := .panicking [{ v := v', recovered := false }] } cs w)
theorem Arr.of_steps {P : Program} {m m1 : Machine} {ρ : Ren} {b : FB} {k : List Item} {tm : Array Value} {df : List Deferred} {cs : List Frame} {w : World} {x : Ex} (h : Steps P m m1) (a : Arr P m1 ρ b k tm df cs w x) : Arr P m ρ b k tm df cs w x := by
 cases x with
 | norm => exact h.trans a
 | exit id => obtain ⟨k1, s, e⟩ := a; exact ⟨k1, h.trans s, e⟩
 | ret => obtain ⟨k1, s⟩ := a; exact ⟨k1, h.trans s⟩
 | panic v => obtain ⟨k1, v', r, s⟩ := a; exact ⟨k1, v', r, h.trans s⟩
section
variable (C : Ctx) (w0 : World) (N0 : Nat) (G : Nat -> Prop)
def CodeRes (ρ : Ren) (fc : FC) (m : Machine) (b : FB) (k : List Item) (ps : PanS) (cs : List Frame) (x : Ex) (fr' : Fr) (ps' : PanS) (st' : St) : Prop :=
 ∃ ρ' w' tm' df' cs', ρ.le ρ' /\ WRel w0 N0 G ρ' st' w' /\ FRel ρ' fc fr' b tm' df' /\ PStep ps ps' cs cs' /\ Arr C.P m ρ' b k tm' df' cs' w' x
def CallRes (ρ : Ren) (f : FuncId) (args' : Array Value) (dfd : Bool) (ps : PanS) (cr : CR) (ps' : PanS) (st' : St) (cs : List Frame) (w : World) : Prop :=
 ∃ ρ' w' F cs', ρ.le ρ' /\ WRel w0 N0 G ρ' st' w' /\ PStep ps ps' cs cs' /\ Steps C.P (lone (Frame.enter C.P f args' (kindOf dfd)) cs w) (lone F cs' w') /\ F.fn = f /\ F.defers = [] /\ F.kind = kindOf dfd /\ (∃ fn, C.P.funcs[f]? = some fn /\
  match cr with
  | .ret v => F.mode = .returning /\ ∃ v', (results fn F.tmps).run C.P w' = .ok v' w' /\ VRel ρ' v v'
  | .pan v => ∃ v', F.mode = .panicking [{ v := v', recovered := false }] /\ VRel ρ' v v')
def RoundRes (ρ : Ren) (L : Loc) (args' : Array Value) (cr : CR) (st' : St) (w : World) : Prop :=
 ∃ fn tmps assign body, (Instr.yield L.b args').run C.P w = .ok (.round L.b fn tmps assign body) w /\ ∀ (c : Frame) (cs : List Frame), ∃ ρ' w', ρ.le ρ' /\ WRel w0 N0 G ρ' st' w' /\
  match cr with
  | .ret v => ∃ v', VRel ρ' v v' /\ Steps C.P (lone (Frame.round L.b fn tmps assign body .normal) (c :: cs) w) (lone (c.finish v') cs w')
  | .pan v => ∃ v', VRel ρ' v v' /\ Steps C.P (lone (Frame.round L.b fn tmps assign body .normal) (c :: cs) w) (lone (c.raise [{ v := v', recovered := false }]) cs w')
structure RecOk (rc : Rec) : Prop where
 code : ∀ fc c fr ps st x fr' ps' st', rc.code fc c fr ps st = some (x, fr', ps', st') -> codeOk c = true -> ∀ ρ w b tm df cs k, WRel w0 N0 G ρ st w -> FRel ρ fc fr b tm df -> PRel ρ fc.dfd ps cs ->
  CodeRes C w0 N0 G ρ fc (lone (mkF b tm df (.code c :: k)) cs w) b k ps cs x fr' ps' st'
 call : ∀ f args dfd ps st cr ps' st', rc.call f args dfd ps st = some (cr, ps', st') -> ∀ ρ w args' cs, WRel w0 N0 G ρ st w -> VsRel ρ args args'.toList -> PRel ρ dfd ps cs ->
  CallRes C w0 N0 G ρ f args' dfd ps cr ps' st' cs w
 round : ∀ l args st cr st', rc.round l args st = some (cr, st') -> ∀ ρ w L args', WRel w0 N0 G ρ st w -> ρ l = some L -> VsRel ρ args args'.toList -> RoundRes C w0 N0 G ρ L args' cr st' w
end
section
variable {C : Ctx} {w0 : World} {N0 : Nat} {G : Nat -> Prop} {ρ : Ren} {fc : FC} {fr : Fr} {ps : PanS} {st : St} {b : FB} {tm : Array Value} {df : List Deferred} {cs : List Frame} {w : World}
theorem TRel.get {nt : Nat} {t : Tr Value} (h : TRel ρ nt t tm) {i : Nat} {v : Value} (hv : t.get i = some v) : VRel ρ v (tm.getD i undef) := by
 obtain ⟨v', e, r⟩ := h.2 _ _ hv
 have : tm.getD i undef = v' := by simp [Array.getD_eq_getD_getElem?, e]
 rw [this]; exact r
theorem constFlat_rel {v : Value} (h : constFlat v = true) (ρ : Ren) : VRel ρ v v := by
 unfold constFlat at h
 split at h
 ·exact .agg (flats_rel h ρ)
 ·exact flat_rel h ρ
theorem evOp_rel {nt : Nat} (h : TRel ρ nt fr.tm tm) : EvRel ρ (evOp fr) (evF tm) := by
 intro x v hv
 cases x with
 | tmp t => exact h.get hv
 | const u =>
  simp only [evOp] at hv
  split at hv
  ·rename_i hc; cases hv; exact constFlat_rel hc ρ
  ·cases hv
 | global g => cases hv
 | func f => cases hv; exact .func f .nil .nil
theorem setDst_rel {nt : Nat} {dst : Option Tmp} {v v' : Value} {fr' : Fr} (h : TRel ρ nt fr.tm tm) (hv : VRel ρ v v') (hs : setDst nt fr dst v = some fr') : TRel ρ nt fr'.tm (putT tm dst v') /\ fr'.df = fr.df := by
 unfold setDst at hs
 split at hs
 ·cases hs; exact ⟨h, rfl⟩
 ·rename_i d
  split at hs
  ·rename_i hlt
   cases hs
   have hlt := Nat.blt_eq.mp hlt
   refine ⟨⟨by simp [putT, h.1], fun i u hu => ?_⟩, rfl⟩
   rw [Tr.get_set] at hu
   by_cases hi : i = d
   ·subst hi
    rw [if_pos rfl] at hu
    cases hu
    exact ⟨v', by simp only [putT]; rw [Array.getElem?_setIfInBounds_self_of_lt (by rw [h.1]; exact hlt)], hv⟩
   ·rw [if_neg hi] at hu
    obtain ⟨u', e, r⟩ := h.2 _ _ hu
    exact ⟨u', by simp only [putT]; rw [Array.getElem?_setIfInBounds_ne (fun e => hi e.symm)]; exact e, r⟩
  ·cases hs
theorem wanted_rel {nt : Nat} {ops : Array Oper} {o : Oper} {r : Bool} (h : TRel ρ nt fr.tm tm) (hw : wantedA ops.toList fr o = some r) : Region.wanted o (yielded ops tm) = r := by
 unfold wantedA at hw
 unfold Region.wanted
 split at hw
 ·rename_i hg; cases hw; rw [hg]
 ·rename_i j want hg
  rw [hg]
  split at hw
  ·cases hw
  ·rename_i oj hj
   rw [nth_eq, Array.getElem?_toList] at hj
   split at hw
   ·cases hw
   ·rename_i d hd
    have hy : yielded ops tm j = (match tm[d]? with | some (.bool b) => some b | _ => none) := by
     unfold yielded
     rw [hj]
     simp only [Option.bind_some, hd]
     rfl
    simp only [hy]
    split at hw
    ·rename_i bb hb
     cases hw
     obtain ⟨v', e, rr⟩ := h.2 _ _ hb
     cases rr
     rw [e]
     cases bb <;> cases want <;> rfl
    ·rename_i vs hb
     cases hw
     obtain ⟨v', e, rr⟩ := h.2 _ _ hb
     cases rr
     rw [e]
     rfl
    ·cases hw
def OpRes (C : Ctx) (w0 : World) (N0 : Nat) (G : Nat -> Prop) (ρ : Ren) (fc : FC) (m : Machine) (b : FB) (tm : Array Value) (df : List Deferred) (ops : Array Oper) (i : Nat) (rest : List Nat) (k : List Item) (ps : PanS) (cs : List Frame) (r : OpR) : Prop :=
 match r with
 | .next fr' ps' st' => ∃ ρ' w' tm' df' cs', ρ.le ρ' /\ WRel w0 N0 G ρ' st' w' /\ FRel ρ' fc fr' b tm' df' /\ PStep ps ps' cs cs' /\ Steps C.P m (lone (mkF b tm' df' (.inRegion ops rest :: k)) cs' w')
 | .pan v _ ps' st' => ps' = ps /\ ∃ ρ' w' v', ρ.le ρ' /\ WRel w0 N0 G ρ' st' w' /\ VRel ρ' v v' /\ Steps C.P m (lone { mkF b tm df (.inRegion ops (i :: rest) :: k) with mode := .panicking [{ v := v', recovered := false }] } cs w')
theorem go_eq {nt : Nat} {dst : Option Tmp} {v : Value} {r : OpR} (h : OpR.go nt fr dst v ps st = some r) : ∃ fr', setDst nt fr dst v = some fr' /\ r = .next fr' ps st := by
 unfold OpR.go at h
 split at h
 ·rename_i fr' e; cases h; exact ⟨fr', e, rfl⟩
 ·cases h
theorem pstep_none {ps' : PanS} {cs' : List Frame} (h : PStep .none ps' cs cs') : ps' = .none /\ cs' = cs := by
 rcases h with h | ⟨v, e, _⟩
 ·exact h
 ·cases e
theorem not_defer_of {C : Ctx} {ev : Operand -> Option Value} {o : Oper} {ar : AR} (h : aop C ev o st = some ar) (hd : ∀ d, ar ≠ .defer d) : ∀ c, o.op ≠ .defer c := by
 intro c e
 unfold aop at h
 rw [e] at h
 simp only at h
 split at h
 ·split at h
  ·unfold aDefer at h
   split at h
   ·cases h; exact hd _ rfl
   ·cases h
  ·cases h
 ·cases h
theorem tryRec_none {todo : List Item} (hf : FRel ρ fc fr b tm df) (hp : PRel ρ fc.dfd ps cs) (hno : ∀ v, fc.dfd = true -> ps = .pend v -> False) : tryRecover (mkF b tm df todo) cs = none := by
 cases hdfd : fc.dfd with
 | false =>
  have hkind : b.kind = .normal := by rw [hf.kind, hdfd]; rfl
  simp [tryRecover, mkF, hkind]
 | true =>
  have hkind : b.kind = .deferred := by rw [hf.kind, hdfd]; rfl
  rw [hdfd] at hp
  cases ps with
  | none =>
   obtain ⟨c, cs1, rfl, hm⟩ := hp
   simp [tryRecover, mkF, hkind, hm]
  | pend v => exact (hno v hdfd rfl).elim
  | recd =>
   obtain ⟨c, cs1, v', rfl, hm⟩ := hp
   simp [tryRecover, mkF, hkind, hm]
theorem runOp_sound (hT : TOk C) (hF : FOk C) (hE : ExtOk C) {rc : Rec} (hR : RecOk C w0 N0 G rc) {o : Oper} {r : OpR} (h : runOp C rc fc o fr ps st = some r) (hw : WRel w0 N0 G ρ st w) (hf : FRel ρ fc fr b tm df) (hp : PRel ρ fc.dfd ps cs)
  {ops : Array Oper} {i : Nat} (rest : List Nat) (k : List Item) (ho : ops[i]? = some o) (hwant : Region.wanted o (yielded ops tm) = true) :
  OpRes C w0 N0 G ρ fc (lone (mkF b tm df (.inRegion ops (i :: rest) :: k)) cs w) b tm df ops i rest k ps cs r := by
 unfold runOp at h
 have hev := evOp_rel hf.tm
 split at h
 ·cases h
 ·rename_i v st' ha
  obtain ⟨fr', hs, rfl⟩ := go_eq h
  obtain ⟨ρ', v', w', hr, kept⟩ := aop_sim hT hF hE hw hev ha
  obtain ⟨ht, hdf⟩ := setDst_rel (hf.tm.mono kept.le) kept.value hs
  refine ⟨ρ', w', putT tm o.dst v', df, cs, kept.le, kept.world, ⟨hf.fn, hf.round.mono kept.le, hf.kind, ht, by rw [hdf]; exact hf.df.mono kept.le⟩, .refl _ _, .one ?_⟩
  exact st_value ho hwant (.inr (not_defer_of ha (by intro d e; cases e))) hr
 ·rename_i v st' ha
  cases h
  obtain ⟨rfl, v', hr, hv⟩ := aop_sim hT hF hE hw hev ha
  exact ⟨rfl, ρ, w, v', Ren.le_refl _, hw, hv, .one (st_panic ho hwant (.inr (not_defer_of ha (by intro d e; cases e))) hr)⟩
 ·rename_i f args ha
  obtain ⟨args', hr, hargs⟩ := aop_sim hT hF hE hw hev ha
  have hent := st_enter (P := C.P) (b := b) (df := df) (k := k) (cs := cs) (rest := rest) ho hwant (.inr (not_defer_of ha (by intro d e; cases e))) hr
  split at h
  ·rename_i v ps1 st' hc
   obtain ⟨fr', hs, rfl⟩ := go_eq h
   obtain ⟨ρ', w', F, cs', hle, hw', hps, hsteps, hfn, hdf, hk, fn, hfun, hm, v', hres, hv⟩ := hR.call _ _ _ _ _ _ _ _ hc ρ w args' (mkF b tm df (.inRegion ops (i :: rest) :: k) :: cs) hw hargs trivial
   obtain ⟨_, rfl⟩ := pstep_none hps
   obtain ⟨ht, hdf2⟩ := setDst_rel (hf.tm.mono hle) hv hs
   refine ⟨ρ', w', putT tm o.dst v', df, cs, hle, hw', ⟨hf.fn, hf.round.mono hle, hf.kind, ht, by rw [hdf2]; exact hf.df.mono hle⟩, .refl _ _, ?_⟩
   refine .head hent (hsteps.trans (.one ?_))
   rw [<- finish_mkF ho]
   exact step_leave_returned ⟨hm, hdf, hk, fn, by rw [hfn]; exact hfun, hres⟩
  ·rename_i v ps1 st' hc
   cases h
   obtain ⟨ρ', w', F, cs', hle, hw', hps, hsteps, hfn, hdf, hk, fn, hfun, v', hm, hv⟩ := hR.call _ _ _ _ _ _ _ _ hc ρ w args' (mkF b tm df (.inRegion ops (i :: rest) :: k) :: cs) hw hargs trivial
   obtain ⟨_, rfl⟩ := pstep_none hps
   refine ⟨rfl, ρ', w', v', hle, hw', hv, .head hent (hsteps.trans (.one ?_))⟩
   have := step_leave_panicked (P := C.P) (c := mkF b tm df (.inRegion ops (i :: rest) :: k)) (cs := cs) (w := w') (fr := F) ⟨hm, hdf, fn, by rw [hfn]; exact hfun⟩
   rw [this]
   rfl
  ·cases h
 ·rename_i l args ha
  obtain ⟨L, args', hL, hargs, hr⟩ := aop_sim hT hF hE hw hev ha
  split at h
  ·rename_i v st' hc
   obtain ⟨fr', hs, rfl⟩ := go_eq h
   obtain ⟨fn, tmps, assign, body, hy, hsteps⟩ := hR.round _ _ _ _ _ hc ρ w L args' hw hL hargs
   rw [hy] at hr
   obtain ⟨ρ', w', hle, hw', v', hv, hst⟩ := hsteps (mkF b tm df (.inRegion ops (i :: rest) :: k)) cs
   obtain ⟨ht, hdf2⟩ := setDst_rel (hf.tm.mono hle) hv hs
   refine ⟨ρ', w', putT tm o.dst v', df, cs, hle, hw', ⟨hf.fn, hf.round.mono hle, hf.kind, ht, by rw [hdf2]; exact hf.df.mono hle⟩, .refl _ _, ?_⟩
   refine .head (st_round ho hwant (.inr (not_defer_of ha (by intro d e; cases e))) hr) ?_
   rw [finish_mkF ho] at hst
   exact hst
  ·rename_i v st' hc
   cases h
   obtain ⟨fn, tmps, assign, body, hy, hsteps⟩ := hR.round _ _ _ _ _ hc ρ w L args' hw hL hargs
   rw [hy] at hr
   obtain ⟨ρ', w', hle, hw', v', hv, hst⟩ := hsteps (mkF b tm df (.inRegion ops (i :: rest) :: k)) cs
   exact ⟨rfl, ρ', w', v', hle, hw', hv, .head (st_round ho hwant (.inr (not_defer_of ha (by intro d e; cases e))) hr) hst⟩
  ·cases h
 ·rename_i ha
  have hr : (execOp (evF tm) o).run C.P w = .ok .recover w := aop_sim hT hF hE hw hev ha
  split at h
  ·cases h
  ·rename_i hround
   have hrn : b.round = none := by have := hf.round; rw [hround] at this; exact this
   split at h
   ·rename_i v hdfd
    obtain ⟨fr', hs, rfl⟩ := go_eq h
    rw [hdfd] at hp
    obtain ⟨c, cs1, v', rfl, hm, hv⟩ := hp
    obtain ⟨ht, hdf2⟩ := setDst_rel hf.tm hv hs
    have hkind : b.kind = .deferred := by rw [hf.kind, hdfd]; rfl
    refine ⟨ρ, w, putT tm o.dst v', df, markRec (c :: cs1), Ren.le_refl _, hw, ⟨hf.fn, hf.round, hf.kind, ht, by rw [hdf2]; exact hf.df⟩, .inr ⟨v, rfl, rfl, rfl⟩, .one ?_⟩
    refine st_recover_some ho hwant hrn hr ?_
    simp [tryRecover, mkF, hkind, hm, markRec]
   ·rename_i hno
    obtain ⟨fr', hs, rfl⟩ := go_eq h
    obtain ⟨ht, hdf2⟩ := setDst_rel hf.tm .nilIface hs
    refine ⟨ρ, w, putT tm o.dst .nilIface, df, cs, Ren.le_refl _, hw, ⟨hf.fn, hf.round, hf.kind, ht, by rw [hdf2]; exact hf.df⟩, .refl _ _, .one ?_⟩
    refine st_recover_none ho hwant hrn hr ?_
    exact tryRec_none hf hp hno
 ·rename_i d ha
  obtain ⟨d', hr, hd⟩ := aop_sim hT hF hE hw hev ha
  split at h
  ·cases h
  ·rename_i hround
   have hrn : b.round = none := by have := hf.round; rw [hround] at this; exact this
   obtain ⟨fr', hs, rfl⟩ := go_eq h
   obtain ⟨ht, hdf2⟩ := setDst_rel (fr := { fr with df := d :: fr.df }) (v' := undef) hf.tm (.tuple .nil) hs
   refine ⟨ρ, w, putT tm o.dst undef, d' :: df, cs, Ren.le_refl _, hw, ⟨hf.fn, hf.round, hf.kind, ht, by rw [hdf2]; exact ⟨hd, hf.df⟩⟩, .refl _ _, .one ?_⟩
   exact st_defer ho hwant hrn hr
theorem stepOp_sound (hT : TOk C) (hF : FOk C) (hE : ExtOk C) {rc : Rec} (hR : RecOk C w0 N0 G rc) {o : Oper} {r : OpR} {ops : Array Oper} (h : stepOp C rc fc ops.toList o fr ps st = some r) (hw : WRel w0 N0 G ρ st w) (hf : FRel ρ fc fr b tm df) (hp : PRel ρ fc.dfd ps cs)
  {i : Nat} (rest : List Nat) (k : List Item) (ho : ops[i]? = some o) :
  OpRes C w0 N0 G ρ fc (lone (mkF b tm df (.inRegion ops (i :: rest) :: k)) cs w) b tm df ops i rest k ps cs r := by
 unfold stepOp at h
 split at h
 ·cases h
 ·rename_i hwa
  obtain ⟨fr', hs, rfl⟩ := go_eq h
  have hwant := wanted_rel hf.tm hwa
  obtain ⟨ht, hdf2⟩ := setDst_rel (v' := undef) hf.tm (.tuple .nil) hs
  exact ⟨ρ, w, putT tm o.dst undef, df, cs, Ren.le_refl _, hw, ⟨hf.fn, hf.round, hf.kind, ht, by rw [hdf2]; exact hf.df⟩, .refl _ _, .one (st_unwanted ho hwant)⟩
 ·rename_i hwa
  exact runOp_sound hT hF hE hR h hw hf hp rest k ho (wanted_rel hf.tm hwa)
theorem runOp_pan {rc : Rec} {o : Oper} {v : Value} {fr' : Fr} {ps' : PanS} {st' : St} (h : runOp C rc fc o fr ps st = some (.pan v fr' ps' st')) : fr' = fr := by
 unfold runOp at h
 repeat' split at h
 all_goals first
  | cases h; done
  | (obtain ⟨_, _, e⟩ := go_eq h; cases e; done)
  | (cases h; rfl)
theorem stepOp_pan {rc : Rec} {ops : List Oper} {o : Oper} {v : Value} {fr' : Fr} {ps' : PanS} {st' : St} (h : stepOp C rc fc ops o fr ps st = some (.pan v fr' ps' st')) : fr' = fr := by
 unfold stepOp at h
 split at h
 ·cases h
 ·obtain ⟨_, _, e⟩ := go_eq h; cases e
 ·exact runOp_pan h
theorem seqOps_sound (hT : TOk C) (hF : FOk C) (hE : ExtOk C) {rc : Rec} (hR : RecOk C w0 N0 G rc) {ops : Array Oper} (k : List Item) : ∀ (l : List Oper) (j : Nat) (fr : Fr) (ps : PanS) (st : St) (ρ : Ren) (w : World) (tm : Array Value) (df : List Deferred) (cs : List Frame) (x : Ex) (fr' : Fr) (ps' : PanS) (st' : St),
  l = ops.toList.drop j -> seqOps C rc fc ops.toList l fr ps st = some (x, fr', ps', st') -> WRel w0 N0 G ρ st w -> FRel ρ fc fr b tm df -> PRel ρ fc.dfd ps cs ->
  CodeRes C w0 N0 G ρ fc (lone (mkF b tm df (.inRegion ops ((List.range ops.size).drop j) :: k)) cs w) b k ps cs x fr' ps' st' := by
 intro l
 induction l with
 | nil =>
  intro j fr ps st ρ w tm df cs x fr' ps' st' hl h hw hf hp
  simp only [seqOps, Option.some.injEq, Prod.mk.injEq] at h
  obtain ⟨rfl, rfl, rfl, rfl⟩ := h
  have hj : ops.size <= j := by
   have := congrArg List.length hl
   simp at this; omega
  refine ⟨ρ, w, tm, df, cs, Ren.le_refl _, hw, hf, .refl _ _, ?_⟩
  rw [List.drop_eq_nil_of_le (by simpa using hj)]
  exact .one st_region_end
 | cons o l ih =>
  intro j fr ps st ρ w tm df cs x fr' ps' st' hl h hw hf hp
  have hj : j < ops.size := by
   have := congrArg List.length hl
   simp at this; omega
  have ho : ops[j]? = some o := by
   have := congrArg (fun q => q[0]?) hl
   simp only [List.getElem?_cons_zero, List.getElem?_drop, Nat.add_zero, Array.getElem?_toList] at this
   exact this.symm
  have hl' : l = ops.toList.drop (j + 1) := by
   have := congrArg List.tail hl
   simpa using this
  have hrange : (List.range ops.size).drop j = j :: (List.range ops.size).drop (j + 1) := by
   rw [List.drop_eq_getElem_cons (by simpa using hj)]
   simp
  simp only [seqOps] at h
  split at h
  ·cases h
  ·rename_i fr1 ps1 st1 hs
   obtain ⟨ρ1, w1, tm1, df1, cs1, hle, hw1, hf1, hps, hst⟩ := stepOp_sound hT hF hE hR hs hw hf hp ((List.range ops.size).drop (j + 1)) k ho
   obtain ⟨ρ2, w2, tm2, df2, cs2, hle2, hw2, hf2, hps2, harr⟩ := ih (j + 1) fr1 ps1 st1 ρ1 w1 tm1 df1 cs1 x fr' ps' st' hl' h hw1 hf1 ((hp.mono hle).step hps)
   refine ⟨ρ2, w2, tm2, df2, cs2, hle.trans hle2, hw2, hf2, hps.trans hps2, ?_⟩
   rw [hrange]
   exact .of_steps hst harr
  ·rename_i v fr1 ps1 st1 hs
   simp only [Option.some.injEq, Prod.mk.injEq] at h
   obtain ⟨rfl, rfl, rfl, rfl⟩ := h
   have hfr := stepOp_pan hs
   subst hfr
   obtain ⟨rfl, ρ1, w1, v', hle, hw1, hv, hst⟩ := stepOp_sound hT hF hE hR hs hw hf hp ((List.range ops.size).drop (j + 1)) k ho
   refine ⟨ρ1, w1, tm, df, cs, hle, hw1, hf.mono hle, .refl _ _, ?_⟩
   rw [hrange]
   exact ⟨_, v', hv, hst⟩
end
open Go.RowKit (Below)
theorem fnEq_eq {f g : Fn} (h : fnEq f g = true) : f = g := by
 cases f <;> cases g <;> simp [fnEq] at h <;> rw [h]
theorem addrEq_eq {a b : Addr} (h : addrEq a b = true) : a = b := by
 obtain ⟨x, y, s⟩ := a
 obtain ⟨x', y', s'⟩ := b
 simp only [addrEq, Bool.and_eq_true, Nat.beq_eq] at h
 obtain ⟨⟨rfl, rfl⟩, h⟩ := h
 cases s <;> cases s' <;> simp at h ⊢
theorem strEq_eq {a b : ByteArray} (h : strEq a b = true) : a = b := by
 rw [strEq, bytesEq_iff, beq_iff_eq] at h
 apply ByteArray.ext
 exact Array.ext' h
mutual
theorem veq_eq : ∀ (a b : Value), veq a b = true -> a = b
 | .func f ⟨x⟩ ⟨y⟩, b, h => by
  cases b <;> first | (simp [veq] at h; done) | skip
  rename_i f' x' y'
  obtain ⟨x'⟩ := x'
  obtain ⟨y'⟩ := y'
  simp only [veq, Bool.and_eq_true] at h
  rw [fnEq_eq h.1.1, veqL_eq x x' h.1.2, veqL_eq y y' h.2]
 | .iface t v, b, h => by
  cases b <;> first | (simp [veq] at h; done) | skip
  rename_i t' v'
  simp only [veq, Bool.and_eq_true, Nat.beq_eq] at h
  rw [h.1, veq_eq v v' h.2]
 | .agg ⟨x⟩, b, h => by
  cases b <;> first | (simp [veq] at h; done) | skip
  rename_i x'
  obtain ⟨x'⟩ := x'
  simp only [veq] at h
  rw [veqL_eq x x' h]
 | .tuple ⟨x⟩, b, h => by
  cases b <;> first | (simp [veq] at h; done) | skip
  rename_i x'
  obtain ⟨x'⟩ := x'
  simp only [veq] at h
  rw [veqL_eq x x' h]
 | .bool a, b, h => by
  cases b <;> first | (simp [veq] at h; done) | (simp [veq] at h; rw [h])
 | .int k a, b, h => by
  cases b <;> first | (simp [veq] at h; done) | skip
  simp only [veq, Bool.and_eq_true] at h
  rw [kindEq_iff.1 h.1, intEq_true.1 h.2]
 | .string a, b, h => by
  cases b <;> first | (simp [veq] at h; done) | skip
  simp only [veq] at h
  rw [strEq_eq h]
 | .pointer none, b, h => by
  cases b <;> first | (simp [veq] at h; done) | skip
  rename_i q
  cases q <;> first | rfl | (simp [veq] at h; done)
 | .pointer (some a), b, h => by
  cases b <;> first | (simp [veq] at h; done) | skip
  rename_i q
  cases q <;> first | (simp [veq] at h; done) | (simp only [veq] at h; rw [addrEq_eq h])
 | .slice none l c, b, h => by
  cases b <;> first | (simp [veq] at h; done) | skip
  rename_i q l' c'
  cases q <;> first | (simp [veq] at h; done) | skip
  simp only [veq, Bool.and_eq_true, Nat.beq_eq] at h
  rw [h.1, h.2]
 | .slice (some a) l c, b, h => by
  cases b <;> first | (simp [veq] at h; done) | skip
  rename_i q l' c'
  cases q <;> first | (simp [veq] at h; done) | skip
  simp only [veq, Bool.and_eq_true, Nat.beq_eq] at h
  rw [addrEq_eq h.1.1, h.1.2, h.2]
 | .map none, b, h => by
  cases b <;> first | (simp [veq] at h; done) | skip
  rename_i q
  cases q <;> first | rfl | (simp [veq] at h; done)
 | .map (some a), b, h => by
  cases b <;> first | (simp [veq] at h; done) | skip
  rename_i q
  cases q <;> first | (simp [veq] at h; done) | (simp only [veq, Nat.beq_eq] at h; rw [h])
 | .nilFunc, b, h => by cases b <;> first | rfl | (simp [veq] at h; done)
 | .nilIface, b, h => by cases b <;> first | rfl | (simp [veq] at h; done)
 | .float k x, b, h => by cases b <;> (simp [veq] at h; done)
 | .complex k x y, b, h => by cases b <;> (simp [veq] at h; done)
 | .chan r, b, h => by cases b <;> (simp [veq] at h; done)
theorem veqL_eq : ∀ (a b : List Value), veqL a b = true -> a = b
 | [], [], _ => rfl
 | x :: a, y :: b, h => by
  simp only [veqL, Bool.and_eq_true] at h
  rw [veq_eq x y h.1, veqL_eq a b h.2]
 | [], _ :: _, h => by simp [veqL] at h
 | _ :: _, [], h => by simp [veqL] at h
end
theorem entriesEq_eq : ∀ {a b : List MapEntry}, entriesEq a b = true -> a = b
 | [], [], _ => rfl
 | x :: a, y :: b, h => by
  simp only [entriesEq, entryEq, Bool.and_eq_true, Nat.beq_eq] at h
  obtain ⟨⟨⟨h1, h2⟩, h3⟩, h4⟩ := h
  obtain ⟨k, v, n⟩ := x
  obtain ⟨k', v', n'⟩ := y
  rw [entriesEq_eq h4]
  simp only at h1 h2 h3
  rw [veq_eq _ _ h1, veq_eq _ _ h2, h3]
 | [], _ :: _, h => by simp [entriesEq] at h
 | _ :: _, [], h => by simp [entriesEq] at h
theorem objEq_eq {a b : AObj} (h : objEq a b = true) : a = b := by
 cases a <;> cases b <;> first | (simp [objEq] at h; done) | skip
 ·simp only [objEq, Bool.and_eq_true, Nat.beq_eq] at h
  rw [veqL_eq _ _ h.1.1.1, h.1.1.2, h.1.2, h.2]
 ·simp only [objEq, Bool.and_eq_true, Nat.beq_eq] at h
  rw [entriesEq_eq h.1, h.2]
 ·simp only [objEq, Bool.and_eq_true, Nat.beq_eq] at h
  rw [strEq_eq h.1, h.2]
section
variable {C : Ctx} {ev ev2 : Operand -> Option Value} {st : St}
theorem evList_congr : ∀ {xs : List Operand}, (∀ x ∈ xs, ev x = ev2 x) -> evList ev xs = evList ev2 xs := by
 intro xs
 induction xs with
 | nil => intro _; rfl
 | cons x xs ih => intro h; simp only [evList]; rw [h x (by simp), ih (fun y hy => h y (by simp [hy]))]
theorem evParts_congr : ∀ {xs : List (Nat × Operand)}, (∀ x ∈ xs.map (·.2), ev x = ev2 x) -> evParts ev xs = evParts ev2 xs := by
 intro xs
 induction xs with
 | nil => intro _; rfl
 | cons x xs ih => obtain ⟨i, x⟩ := x; intro h; simp only [evParts]; rw [h x (by simp), ih (fun y hy => h y (by simp at hy ⊢; exact .inr hy))]
theorem aop_congr (o : Oper) (h : ∀ x ∈ o.op.operands, ev x = ev2 x) : aop C ev o st = aop C ev2 o st := by
 unfold aop
 split
 case h_31 => rfl
 case h_4 => rfl
 case h_16 => rfl
 all_goals (rename_i hop; rw [hop] at h; simp only [Op.operands] at h)
 case h_30 x => rw [h x (by simp)]
 case h_6 => rw [evParts_congr (ev := ev) (ev2 := ev2) (fun x hx => h x (by simpa using hx))]
 case h_7 => rw [evParts_congr (ev := ev) (ev2 := ev2) (fun x hx => h x (by simpa using hx))]
 case h_15 a b => rw [evList_congr (ev := ev) (ev2 := ev2) (xs := a.toList) (fun x hx => h x (by simp; exact .inl (by simpa using hx))), evList_congr (ev := ev) (ev2 := ev2) (xs := b.toList) (fun x hx => h x (by simp; exact .inr (by simpa using hx)))]
 case h_18 x lo hi mx =>
  have e0 := h x (by simp)
  have e1 : ∀ l, lo = some l -> ev l = ev2 l := fun l hl => h l (by subst hl; simp)
  have e2 : ∀ l, hi = some l -> ev l = ev2 l := fun l hl => h l (by subst hl; simp)
  have e3 : ∀ l, mx = some l -> ev l = ev2 l := fun l hl => h l (by subst hl; simp)
  rw [e0]
  cases lo <;> cases hi <;> cases mx <;> simp_all
 case h_28 c =>
  simp only [Call.operands] at h
  rw [evList_congr (ev := ev) (ev2 := ev2) (xs := c.args.toList) (fun x hx => h x (by simp; exact .inr (by simpa using hx)))]
  split
  ·rfl
  ·split
   ·rfl
   ·rename_i f hf
    rw [h f (by rw [hf]; simp)]
   ·rfl
 case h_29 c =>
  simp only [Call.operands] at h
  rw [evList_congr (ev := ev) (ev2 := ev2) (xs := c.args.toList) (fun x hx => h x (by simp; exact .inr (by simpa using hx)))]
  split
  ·rename_i f _ hf
   rw [h f (by rw [hf]; simp)]
  ·rfl
 all_goals first
  | rfl
  | (simp at h; simp only [h]; done)
  | (simp at h; obtain ⟨h1, h2⟩ := h; simp only [h1, h2]; done)
  | (simp at h; obtain ⟨h1, h2, h3⟩ := h; simp only [h1, h2, h3]; done)
end
open Go.RowKit (Below)
inductive Lin (ops : Array Oper) : (Nat -> Bool) -> List Nat -> Prop
 | nil {D : Nat -> Bool} (h : ∀ i, i < ops.size -> D i = true) : Lin ops D []
 | cons {D : Nat -> Bool} {i : Nat} {L : List Nat} {o : Oper} (ho : ops[i]? = some o) (hn : D i = false) (he : ∀ e ∈ o.after.toList, Region.binds .any e = true -> D e.on = true) (t : Lin ops (fun x => D x || x == i) L) : Lin ops D (i :: L)
def edgesBack (ops : Array Oper) : Prop := ∀ (i : Nat) (o : Oper), ops[i]? = some o -> ∀ e ∈ o.after.toList, Region.binds .any e = true -> e.on < i
theorem countP_lt {p q : Nat -> Bool} : ∀ (l : List Nat), (∀ x ∈ l, q x = true -> p x = true) -> ∀ i ∈ l, p i = true -> q i = false -> l.countP q < l.countP p := by
 intro l
 induction l with
 | nil => intro _ i hi; simp at hi
 | cons x l ih =>
  intro h i hi hp hq
  have hle : l.countP q <= l.countP p := List.countP_mono_left fun y hy => h y (by simp [hy])
  rcases List.mem_cons.1 hi with rfl | hi
  ·rw [List.countP_cons_of_neg (by simp [hq]), List.countP_cons_of_pos hp]; omega
  ·have := ih (fun y hy => h y (by simp [hy])) i hi hp hq
   simp only [List.countP_cons]
   by_cases hx : q x = true
   ·rw [if_pos hx, if_pos (h x (by simp) hx)]; omega
   ·rw [if_neg hx]; omega
theorem lin_go {ops : Array Oper} (hb : edgesBack ops) : ∀ (fuel t : Nat) (listed : Array Bool) (acc : List Nat), listed.size = ops.size -> (List.range ops.size).countP (fun i => !listed.getD i false) <= fuel ->
  ∃ L, Region.linearise.go .any ops fuel t listed acc = acc.reverse ++ L /\ Lin ops (fun x => listed.getD x false) L := by
 intro fuel
 induction fuel with
 | zero =>
  intro t listed acc hs hc
  refine ⟨[], by simp [Region.linearise.go], .nil fun i hi => ?_⟩
  have h0 : (List.range ops.size).countP (fun i => !listed.getD i false) = 0 := by omega
  rw [List.countP_eq_zero] at h0
  have := h0 i (by simpa using hi)
  simpa using this
 | succ fuel ih =>
  intro t listed acc hs hc
  simp only [Region.linearise.go]
  generalize hrs : (List.range ops.size).filter (fun i => !listed.getD i true && ((ops[i]?).map (·.after.all fun e => !Region.binds .any e || listed.getD e.on false)).getD false) = rs
  have hgd : ∀ i, i < ops.size -> listed.getD i true = listed.getD i false := by
   intro i hi
   simp [Array.getD_eq_getD_getElem?, Array.getElem?_eq_getElem (by omega : i < listed.size)]
  cases hget : rs[t % rs.length]? with
  | none =>
   have hempty : rs = [] := by
    cases rs with
    | nil => rfl
    | cons a l =>
     rw [List.getElem?_eq_getElem (Nat.mod_lt _ (by simp))] at hget
     cases hget
   refine ⟨[], by simp, .nil fun i => ?_⟩
   induction i using Nat.strongRecOn with
   | _ i ihi =>
    intro hi
    cases hd : listed.getD i false with
    | true => rfl
    | false =>
     exfalso
     have hmem : i ∈ rs := by
      rw [<- hrs, List.mem_filter]
      refine ⟨by simpa using hi, ?_⟩
      rw [hgd i hi, hd, Array.getElem?_eq_getElem hi]
      simp only [Bool.not_false, Option.map_some, Option.getD_some, Bool.true_and]
      rw [Array.all_eq_true]
      intro q hq
      cases hbe : Region.binds .any ops[i].after[q] with
      | false => rfl
      | true =>
       have hlt := hb i ops[i] (Array.getElem?_eq_getElem hi) ops[i].after[q] (by simp) hbe
       rw [ihi _ hlt (by omega)]
       rfl
     rw [hempty] at hmem
     simp at hmem
  | some i =>
   have hmem : i ∈ rs := List.mem_of_getElem? hget
   rw [<- hrs, List.mem_filter] at hmem
   obtain ⟨hi, hcond⟩ := hmem
   have hi : i < ops.size := by simpa using hi
   rw [hgd i hi, Array.getElem?_eq_getElem hi] at hcond
   simp only [Option.map_some, Option.getD_some, Bool.and_eq_true, Bool.not_eq_true'] at hcond
   obtain ⟨hd, hall⟩ := hcond
   rw [Array.all_eq_true] at hall
   have hset : ∀ x, (listed.setIfInBounds i true).getD x false = (listed.getD x false || x == i) := by
    intro x
    by_cases hx : x = i
    ·subst hx
     simp [Array.getD_eq_getD_getElem?, Array.getElem?_setIfInBounds_self_of_lt (by omega : x < listed.size)]
    ·simp [Array.getD_eq_getD_getElem?, Array.getElem?_setIfInBounds_ne (fun e => hx e.symm), hx]
   have hcount : (List.range ops.size).countP (fun x => !(listed.setIfInBounds i true).getD x false) <= fuel := by
    have := countP_lt (p := fun x => !listed.getD x false) (q := fun x => !(listed.setIfInBounds i true).getD x false) (List.range ops.size) (fun x _ hq => by
     rw [hset] at hq
     simp at hq ⊢
     exact hq.1) i (by simpa using hi) (by simp [hd]) (by rw [hset]; simp)
    omega
   obtain ⟨L, hL, hlin⟩ := ih (t / rs.length) (listed.setIfInBounds i true) (i :: acc) (by simp [hs]) hcount
   refine ⟨i :: L, by simp only; rw [hL]; simp, .cons (Array.getElem?_eq_getElem hi) hd (fun e he hbe => ?_) ?_⟩
   ·obtain ⟨q, hq, rfl⟩ := List.getElem_of_mem he
    have := hall q (by simpa using hq)
    simp only [Array.getElem_toList] at hbe ⊢
    rw [hbe] at this
    simpa using this
   ·have hfun : (fun x => (listed.setIfInBounds i true).getD x false) = (fun x => listed.getD x false || x == i) := funext hset
    rw [<- hfun]; exact hlin
theorem lin_schedule {ops : Array Oper} (hb : edgesBack ops) (t : Nat) : Lin ops (fun _ => false) (Region.schedule true ops t) := by
 have hsch : Region.schedule true ops t = Region.linearise .any ops t := by simp [Region.schedule]
 rw [hsch]
 obtain ⟨L, hL, hlin⟩ := lin_go hb ops.size t (Array.replicate ops.size false) [] (by simp) (by
  refine Nat.le_trans (List.countP_le_length) (by simp))
 have : Region.linearise .any ops t = L := by simpa [Region.linearise] using hL
 rw [this]
 have hfun : (fun x => (Array.replicate ops.size false).getD x false) = (fun _ => false) := by
  funext x
  by_cases hx : x < ops.size
  ·simp [Array.getD_eq_getD_getElem?, hx]
  ·simp [Array.getD_eq_getD_getElem?, hx]
 rw [<- hfun]
 exact hlin
structure PlanFacts (ops : Array Oper) (bs : List Nat) (m : Nat) (order : List Nat) : Prop where
 back : edgesBack ops
 bits : ∀ (i : Nat) (o : Oper), ops[i]? = some o -> ∀ j, bitAt bs i j = true -> ∃ e ∈ o.after.toList, Region.binds .any e = true /\ (e.on = j ∨ bitAt bs e.on j = true)
 mle : m <= ops.size
 all : ∀ i, i < m -> i ∈ order
 lt : ∀ i, i ∈ order -> i < m
 nodup : order.Nodup
 later : ∀ pre e post, order = pre ++ e :: post -> isEffAt ops.toList e = true -> ∀ i ∈ post, bitAt bs i e = true
 reads : ∀ (j : Nat) (oj : Oper) (t : Tmp), ops[j]? = some oj -> isEff oj.op = false -> oj.dst = some t -> ∀ (i : Nat) (oi : Oper), ops[i]? = some oi -> t ∈ readsOf ops.toList oi -> bitAt bs i j = true
 tail : ∀ (i : Nat) (o : Oper), m <= i -> ops[i]? = some o -> tailKind o.op = true /\ o.guard = none /\ ∀ j, j < m -> bitAt bs i j = true
theorem testBit_fold {bs : List Nat} {j : Nat} : ∀ (l : List Edge) (s : Nat), Nat.testBit (l.foldl (fun s e => match Region.binds .any e with | true => Nat.lor (Nat.lor s (2 ^ e.on)) (match nth bs e.on with | some b => b | none => 0) | false => s) s) j = true ->
  Nat.testBit s j = true ∨ ∃ e ∈ l, Region.binds .any e = true /\ (e.on = j ∨ bitAt bs e.on j = true) := by
 intro l
 induction l with
 | nil => intro s h; exact .inl h
 | cons e l ih =>
  intro s h
  simp only [List.foldl_cons] at h
  rcases ih _ h with h | ⟨e', he', hb, hr⟩
  ·cases hb : Region.binds .any e with
   | false => rw [hb] at h; exact .inl h
   | true =>
    rw [hb] at h
    simp only at h
    have h' : ((s ||| 2 ^ e.on) ||| (match nth bs e.on with | some b => b | none => 0)).testBit j = true := h
    rw [Nat.testBit_or, Nat.testBit_or, Bool.or_eq_true, Bool.or_eq_true] at h'
    rcases h' with (h | h) | h
    ·exact .inl h
    ·rw [Nat.testBit_two_pow] at h
     exact .inr ⟨e, by simp, hb, .inl (by simpa using h)⟩
    ·refine .inr ⟨e, by simp, hb, .inr ?_⟩
     unfold bitAt
     cases hn : nth bs e.on with
     | none => rw [hn] at h; simp at h
     | some b => rw [hn] at h; exact h
  ·exact .inr ⟨e', by simp [he'], hb, hr⟩
theorem laterOk_spec {ops : List Oper} {bs : List Nat} : ∀ {l : List Nat}, laterOk ops bs l = true -> ∀ pre e post, l = pre ++ e :: post -> isEffAt ops e = true -> ∀ i ∈ post, bitAt bs i e = true := by
 intro l
 induction l with
 | nil => intro _ pre e post h; simp at h
 | cons x l ih =>
  intro h pre e post hl he i hi
  simp only [laterOk, Bool.and_eq_true, Bool.or_eq_true, Bool.not_eq_true', List.all_eq_true] at h
  cases pre with
  | nil =>
   simp at hl
   obtain ⟨rfl, rfl⟩ := hl
   rcases h.1 with h1 | h1
   ·rw [h1] at he; cases he
   ·exact h1 i hi
  | cons y pre =>
   simp at hl
   obtain ⟨rfl, rfl⟩ := hl
   exact ih h.2 pre e post rfl he i hi
theorem any_beq {l : List Nat} {i : Nat} : l.any (Nat.beq i) = true ↔ i ∈ l := by
 rw [List.any_eq_true]
 constructor
 ·rintro ⟨x, hx, h⟩; rw [Nat.eq_of_beq_eq_true h]; exact hx
 ·intro h; exact ⟨i, h, Nat.beq_refl i⟩
theorem nodup_of_cover : ∀ {m : Nat} {l : List Nat}, (∀ i, i < m -> i ∈ l) -> l.length = m -> l.Nodup := by
 intro m l h hl
 have : ∀ (k : Nat) (l : List Nat), l.length <= k -> (∀ i, i < k -> i ∈ l) -> l.Nodup := by
  intro k
  induction k with
  | zero => intro l hk _; cases l with | nil => simp | cons _ _ => simp at hk
  | succ k ih =>
   intro l hk hc
   have hmem := hc k (by omega)
   have hle : (l.erase k).length <= k := by rw [List.length_erase_of_mem hmem]; omega
   have hnd := ih (l.erase k) hle (fun i hi => by
    rw [List.mem_erase_of_ne (by omega)]; exact hc i (by omega))
   have hnot : k ∉ l.erase k := by
    intro hk2
    have hall : ∀ i, i < k + 1 -> i ∈ l.erase k := by
     intro i hi
     by_cases h : i = k
     ·subst h; exact hk2
     ·rw [List.mem_erase_of_ne h]; exact hc i hi
    have : ∀ (q : Nat) (l2 : List Nat), (∀ i, i < q -> i ∈ l2) -> q <= l2.length := by
     intro q
     induction q with
     | zero => intro l2 _; omega
     | succ q ihq =>
      intro l2 h2
      have := ihq (l2.erase q) (fun i hi => by rw [List.mem_erase_of_ne (by omega)]; exact h2 i (by omega))
      rw [List.length_erase_of_mem (h2 q (by omega))] at this
      have hpos : 0 < l2.length := List.length_pos_of_mem (h2 q (by omega))
      omega
    have := this (k + 1) _ hall
    omega
   have hperm := List.perm_cons_erase hmem
   exact hperm.nodup_iff.2 (List.nodup_cons.2 ⟨hnot, hnd⟩)
 exact this m l (by omega) h
theorem planOk_spec {ops : Array Oper} (h : planOk ops.toList = true) : PlanFacts ops (plan ops.toList).bs (plan ops.toList).m (plan ops.toList).order := by
 unfold planOk at h
 simp only [Bool.and_eq_true] at h
 obtain ⟨⟨⟨⟨⟨⟨⟨⟨h1, h2⟩, h3⟩, h4⟩, h5⟩, h6⟩, h7⟩, h8⟩, h9⟩ := h
 have hnth : ∀ (i : Nat) (o : Oper), ops[i]? = some o -> nth ops.toList i = some o /\ i < ops.toList.length := by
  intro i o ho
  rw [nth_eq, Array.getElem?_toList]
  refine ⟨ho, ?_⟩
  rcases Nat.lt_or_ge i ops.size with h | h
  ·simpa using h
  ·rw [Array.getElem?_eq_none h] at ho; cases ho
 rw [List.all_eq_true] at h1 h2 h4 h5
 have hall : ∀ i, i < (plan ops.toList).m -> i ∈ (plan ops.toList).order := fun i hi => any_beq.1 (h4 i (by simpa using hi))
 refine ⟨fun i o ho e he hb => ?_, fun i o ho j hj => ?_, by simpa using Nat.le_of_ble_eq_true h3, hall, fun i hi => Nat.blt_eq.mp (h5 i hi), nodup_of_cover hall (Nat.eq_of_beq_eq_true h6), laterOk_spec h7, fun j oj t hj hne hd i oi hi ht => ?_, fun i o hmi ho => ?_⟩
 ·obtain ⟨e1, e2⟩ := hnth _ _ ho
  have := h1 i (by simpa using e2)
  rw [e1] at this
  simp only [List.all_eq_true] at this
  have := this e he
  rw [hb] at this
  exact Nat.blt_eq.mp (by simpa using this)
 ·obtain ⟨e1, e2⟩ := hnth _ _ ho
  have := h2 i (by simpa using e2)
  rw [e1] at this
  split at this
  ·rename_i o' b' ho' hb'
   cases ho'
   have hbe := Nat.eq_of_beq_eq_true this
   unfold bitAt at hj
   rw [hb'] at hj
   simp only at hj
   rw [hbe] at hj
   rcases testBit_fold _ _ hj with h | h
   ·simp at h
   ·exact h
  ·cases this
 ·obtain ⟨e1, e2⟩ := hnth _ _ hj
  obtain ⟨f1, f2⟩ := hnth _ _ hi
  unfold readsOk at h8
  rw [List.all_eq_true] at h8
  have := h8 j (by simpa using e2)
  rw [e1] at this
  simp only [hne, Bool.false_or, hd, List.all_eq_true] at this
  have := this i (by simpa using f2)
  rw [f1] at this
  simp only [Bool.or_eq_true, Bool.not_eq_true'] at this
  rcases this with h | h
  ·rw [any_beq.2 ht] at h; cases h
  ·exact h
 ·obtain ⟨e1, e2⟩ := hnth _ _ ho
  unfold tailFrom at h9
  rw [List.all_eq_true] at h9
  have := h9 (i - (plan ops.toList).m) (by simp at e2 ⊢; omega)
  rw [show (plan ops.toList).m + (i - (plan ops.toList).m) = i from by omega, e1] at this
  simp only [Bool.and_eq_true] at this
  refine ⟨this.2.1, by simpa using this.2.2, fun j hjm => ?_⟩
  have hs := this.1
  unfold bitAt
  split at hs
  ·rename_i b hb
   try rw [hb]
   show Nat.testBit b j = true
   unfold subset at hs
   have hland := Nat.eq_of_beq_eq_true hs
   have hbit : ((2 ^ (plan ops.toList).m - 1) &&& b).testBit j = (2 ^ (plan ops.toList).m - 1).testBit j := congrArg (fun x => Nat.testBit x j) hland
   rw [Nat.testBit_and, Nat.testBit_two_pow_sub_one] at hbit
   simpa [hjm] using hbit
  ·cases hs
open Go.RowKit (Below)
section
variable {C : Ctx} {w0 : World} {N0 : Nat} {G : Nat -> Prop} {ρ : Ren} {st : St} {w : World} {ev : Operand -> Option Value} {ev' : Operand -> Value}
def Makes (ρ : Ren) (w : World) (N : Nat) (v : Value) (ob : AObj) (r : Result Next) : Prop :=
 ∃ v' co l, r = .ok (.value v') { w with heap := w.heap.push co } /\ l.b = w.heap.size /\ ∀ ρ' : Ren, ρ.le ρ' -> ρ' N = some l -> ORel ρ' l ob (some co) /\ VRel ρ' v v'
theorem row_makes {c : List Value} {c' : Array Value} (es N : Nat) (elem : TypeId) (hc : VsRel ρ c c'.toList) {v v' : Value} {r : Result Next} (hr : r = .ok (.value v') { w with heap := w.heap.push (.cells c' elem) })
  (hv : ∀ ρ' : Ren, ρ.le ρ' -> ρ' N = some ⟨w.heap.size, 0, es, c'.size⟩ -> VRel ρ' v v') : Makes ρ w N v (.cells c es N 0) r := by
 refine ⟨v', .cells c' elem, ⟨w.heap.size, 0, es, c'.size⟩, hr, rfl, fun ρ' hle hN => ⟨⟨c', elem, 0, 0, rfl, rfl, rfl, ?_, fun i u hu => ?_, fun i _ hh => by omega⟩, hv ρ' hle hN⟩⟩
 ·have := hc.length
  simp at this
  simp; omega
 ·obtain ⟨u', e, k⟩ := hc.get hu
  exact ⟨u', by simpa using e, k.mono hle⟩
theorem maker_sim (hT : TOk C) (he : EvRel ρ ev ev') {o : Oper} (hm : isMaker o.op = true) {N : Nat} {v : Value} {s : St} {ob : AObj} (h : aop C ev o ⟨.nil, N, .nil⟩ = some (.val v s)) (hs : s.get N = some ob) :
  Makes ρ w N v ob ((execOp ev' o).run C.P w) := by
 have hget : ∀ x : AObj, ((⟨.nil, N, .nil⟩ : St).new x).get N = some x := fun x => by rw [St.get_new, if_pos rfl]
 unfold aop at h
 split at h
 case h_4 t hop =>
  unfold aAlloc at h
  split at h
  ·rename_i ti ht
   obtain ⟨rfl, rfl⟩ := val_eq h
   rw [hget] at hs
   cases hs
   obtain ⟨z, hz, hzv⟩ := run_zero hT ht w
   have hcells : VsRel ρ ti.zero z.cells.toList := by rw [hzv.cells]; exact flats_rel (hT.zflat _ _ ht) ρ
   refine row_makes (v' := .pointer (some ⟨w.heap.size, 0, none⟩)) ti.size N t hcells ?_ (fun ρ' _ hN => .ptr (l := ⟨w.heap.size, 0, ti.size, z.cells.size⟩) hN)
   simp only [execOp, hop, Instr.alloc]
   rw [Sem.run_bind]
   simp only [Sem.run_bind, hz, Result.andThen_ok, newVar, run_newRow, Sem.run_pure]
  ·cases h
 case h_5 t x hop =>
  split at h
  ·rename_i u hu
   unfold aBox at h
   split at h
   ·obtain ⟨rfl, rfl⟩ := val_eq h
    rw [hget] at hs
    cases hs
    have hr := he _ _ hu
    refine row_makes (v' := .pointer (some ⟨w.heap.size, 0, none⟩)) _ N t hr.cells ?_ (fun ρ' _ hN => .ptr (l := ⟨w.heap.size, 0, _, (ev' x).cells.size⟩) hN)
    simp only [execOp, hop, Instr.box]
    rw [Sem.run_bind]
    simp only [Sem.run_bind, Result.andThen_ok, newVar, run_newRow, Sem.run_pure]
   ·cases h
  ·cases h
 case h_7 t n ps hop =>
  split at h
  ·rename_i l hl
   unfold aBuildSlice at h
   split at h
   ·rename_i ti ht
    split at h
    ·rename_i elem hd
     split at h
     ·rename_i te hte
      split at h
      ·rename_i c hcond hf
       split at h
       ·rename_i hall
        obtain ⟨rfl, rfl⟩ := val_eq h
        rw [hget] at hs
        cases hs
        simp only [Bool.and_eq_true] at hcond
        have hpos := Nat.blt_eq.mp hcond.1.1
        have hle := Nat.le_of_ble_eq_true hcond.1.2
        have hzl := Nat.eq_of_beq_eq_true hcond.2
        obtain ⟨z, hz, hzv⟩ := run_zero hT hte w
        have hzs : z.cells.size = te.size := by rw [<- hzl, <- hzv.cells]; simp
        have hzr : VsRel ρ (repl te.zero n) ((Array.range (n * te.size)).map (z.cells[· % z.cells.size]!)).toList := by
         rw [<- hzs, zeros_eq, hzv.cells]
         exact flats_rel (repl_flat (hT.zflat _ _ hte) n) ρ
        have hps : PsRel ρ l (ps.map fun (i, x) => (i, ev' x)).toList := by rw [Array.toList_map]; exact evParts_rel he hl
        obtain ⟨r', hr1, hr2⟩ := fill_sim (place' := fun i => some (i * te.size, te.size)) (fun i x hx => hx) hps hzr hf
        have hlen : r'.size = n * te.size := by
         have h1 := hr2.length
         have h2 := afill_length hf
         have h3 := (repl_eq te.zero n).1
         simp only [Array.length_toList] at h1
         rw [<- h1, h2, h3, hzl]
        refine row_makes (v' := .slice (some ⟨w.heap.size, 0, none⟩) n n) te.size N elem hr2 ?_ (fun ρ' _ hN => .slice (l := ⟨w.heap.size, 0, te.size, r'.size⟩) hN (Nat.le_refl _) (by simp [hlen]))
        simp only [execOp, hop]
        rw [Sem.run_bind]
        by_cases h0 : n * te.size = 0
        ·have hm0 : ∀ f : Nat -> Value, Array.map f (Array.range 0) = #[] := fun _ => Array.eq_empty_of_size_eq_zero (by simp)
         simp only [h0, hm0] at hr1
         simp only [Instr.buildSlice, Sem.run_bind, run_und hT ht, hd, Result.andThen_ok, run_size hT hte, h0, if_neg (by omega : ¬ 0 > 2 ^ 24), if_true, Sem.run_pure, hm0, hr1, run_newRow]
        ·simp only [Instr.buildSlice, Sem.run_bind, run_und hT ht, hd, Result.andThen_ok, run_size hT hte, if_neg (by omega : ¬ n * te.size > 2 ^ 24), if_neg h0, hz, Sem.run_pure, hr1, run_newRow]
       ·cases h
      ·cases h
     ·cases h
    ·cases h
   ·cases h
  ·cases h
 case h_16 t hop =>
  obtain ⟨rfl, rfl⟩ := val_eq h
  rw [hget] at hs
  cases hs
  refine ⟨.map (some w.heap.size), .map #[] 0, ⟨w.heap.size, 0, 0, 0⟩, ?_, rfl, fun ρ' _ hN => ⟨⟨#[], rfl, trivial⟩, .map (l := ⟨w.heap.size, 0, 0, 0⟩) hN⟩⟩
  simp only [execOp, hop]
  rfl
 all_goals (exfalso; first | (rename_i hop; rw [hop] at hm; simp [isMaker] at hm; done) | cases h)
theorem maker_new {o : Oper} (hm : isMaker o.op = true) {v : Value} {s : St} (h : aop C ev o st = some (.val v s)) : ∃ ob, s = st.new ob /\ ownFam st ob := by
 unfold aop at h
 split at h
 case h_4 t hop =>
  unfold aAlloc at h
  split at h
  ·obtain ⟨rfl, rfl⟩ := val_eq h; exact ⟨_, rfl, rfl⟩
  ·cases h
 case h_5 t x hop =>
  split at h
  ·unfold aBox at h
   split at h
   ·obtain ⟨rfl, rfl⟩ := val_eq h; exact ⟨_, rfl, rfl⟩
   ·cases h
  ·cases h
 case h_7 t n ps hop =>
  split at h
  ·unfold aBuildSlice at h
   repeat' split at h
   all_goals first | cases h; done | (obtain ⟨rfl, rfl⟩ := val_eq h; exact ⟨_, rfl, rfl⟩)
  ·cases h
 case h_16 t hop => obtain ⟨rfl, rfl⟩ := val_eq h; exact ⟨_, rfl, trivial⟩
 all_goals (exfalso; first | (rename_i hop; rw [hop] at hm; simp [isMaker] at hm; done) | cases h)
theorem WRel.ghostNew (h : WRel w0 N0 G ρ st w) {ob : AObj} (ho : ownFam st ob) : WRel w0 N0 (fun x => G x ∨ x = st.n) ρ (st.new ob) w := by
 have hn := h.none_at
 have hne : ∀ b l, ρ b = some l -> b ≠ st.n := fun b l e e2 => by subst e2; rw [hn] at e; cases e
 refine ⟨h.wf.new ho, h.below, h.big, ?_, fun b l e => ?_, fun b l o e g => ?_, fun b b' l l' o o' h1 h2 he g1 g2 hd => ?_⟩
 ·rintro x (hx | rfl)
  ·exact ⟨(h.gho x hx).1, Nat.lt_succ_of_lt (h.gho x hx).2⟩
  ·exact ⟨hn, Nat.lt_succ_self _⟩
 ·have := h.dom b l e
  exact ⟨Nat.lt_succ_of_lt this.1, this.2⟩
 ·rw [St.get_new, if_neg (hne _ _ e)] at g
  exact h.obj _ _ _ e g
 ·rw [St.get_new, if_neg (hne _ _ h1)] at g1
  rw [St.get_new, if_neg (hne _ _ h2)] at g2
  exact h.sep _ _ _ _ _ _ h1 h2 he g1 g2 hd
theorem WRel.realize (h : WRel w0 N0 G ρ st w) {N : Nat} {ob : AObj} {co : Obj} {l : Loc} {G' : Nat -> Prop} (hN : ρ N = none) (hlt : N < st.n) (hg : st.get N = some ob) (hl : l.b = w.heap.size) (hr : ORel (ρ.add N l) l ob (some co)) (hG : ∀ x, G' x -> G x /\ x ≠ N) :
  WRel w0 N0 G' (ρ.add N l) st { w with heap := w.heap.push co } := by
 have hle := Ren.le_add (l := l) hN
 have hpush : ∀ k, k < w.heap.size -> (w.heap.push co)[k]? = w.heap[k]? := fun k hk => by rw [Array.getElem?_push, if_neg (by omega)]
 have hbig := h.big
 refine ⟨h.wf, h.below.trans ⟨rfl, rfl, rfl, by simp, fun k hk => hpush k (by omega)⟩, by show N0 <= (w.heap.push co).size; simp; omega, fun x hx => ?_, fun b l' hb => ?_, fun b l' o' hb hgb => ?_, fun b b' l1 l2 o1 o2 h1 h2 he g1 g2 hne => ?_⟩
 ·obtain ⟨h1, h2⟩ := hG x hx
  have := h.gho x h1
  exact ⟨by rw [Ren.add_ne _ _ h2]; exact this.1, this.2⟩
 ·show b < st.n /\ N0 <= l'.b /\ l'.b < (w.heap.push co).size
  by_cases e : b = N
  ·subst e
   rw [Ren.add_same] at hb
   cases hb
   simp; omega
  ·rw [Ren.add_ne _ _ e] at hb
   have := h.dom _ _ hb
   simp; omega
 ·show ORel _ l' o' (w.heap.push co)[l'.b]?
  by_cases e : b = N
  ·subst e
   rw [Ren.add_same] at hb
   cases hb
   rw [hg] at hgb
   cases hgb
   rw [hl, Array.getElem?_push_size]
   exact hr
  ·rw [Ren.add_ne _ _ e] at hb
   rw [hpush _ (h.dom _ _ hb).2.2]
   exact (h.obj _ _ _ hb hgb).mono hle
 ·by_cases e1 : b = N
  ·subst e1
   rw [Ren.add_same] at h1
   cases h1
   rw [Ren.add_ne _ _ (fun e => hne e.symm)] at h2
   have := (h.dom _ _ h2).2.2
   omega
  ·rw [Ren.add_ne _ _ e1] at h1
   by_cases e2 : b' = N
   ·subst e2
    rw [Ren.add_same] at h2
    cases h2
    have := (h.dom _ _ h1).2.2
    omega
   ·rw [Ren.add_ne _ _ e2] at h2
    exact h.sep _ _ _ _ _ _ h1 h2 he g1 g2 hne
theorem WRel.fewer (h : WRel w0 N0 G ρ st w) {G' : Nat -> Prop} (hG : ∀ x, G' x -> G x) : WRel w0 N0 G' ρ st w :=
 ⟨h.wf, h.below, h.big, fun x hx => h.gho x (hG x hx), h.dom, h.obj, h.sep⟩
def maskT (tm : Tr Value) (pl : List Nat) : Tr Value := pl.foldl (fun tm d => tm.put d none) tm
theorem get_maskT : ∀ (pl : List Nat) (tm : Tr Value) (t : Nat), (maskT tm pl).get t = if t ∈ pl then none else tm.get t := by
 intro pl
 induction pl with
 | nil => intro tm t; simp [maskT]
 | cons d pl ih =>
  intro tm t
  have : maskT tm (d :: pl) = maskT (tm.put d none) pl := rfl
  rw [this, ih, Tr.get_put]
  by_cases h1 : t ∈ pl
  ·rw [if_pos h1, if_pos (by simp [h1])]
  ·rw [if_neg h1]
   by_cases h2 : t = d
   ·rw [if_pos h2, if_pos (by simp [h2])]
   ·rw [if_neg h2, if_neg (by simp [h1, h2])]
def maskF (fr : Fr) (pl : List Nat) : Fr := ⟨maskT fr.tm pl, fr.df⟩
theorem tmpsOf_mem {xs : List Operand} {t : Tmp} (h : Operand.tmp t ∈ xs) : t ∈ tmpsOf xs := by
 induction xs with
 | nil => simp at h
 | cons x xs ih =>
  rcases List.mem_cons.1 h with rfl | h2
  ·simp [tmpsOf]
  ·cases x <;> simp [tmpsOf, ih h2]
theorem evOp_mask {fr : Fr} {pl : List Nat} {ops : List Oper} {o : Oper} (hd : ∀ t ∈ readsOf ops o, t ∉ pl) : ∀ x ∈ o.op.operands, evOp fr x = evOp (maskF fr pl) x := by
 intro x hx
 cases x with
 | tmp t =>
  have ht : t ∈ readsOf ops o := List.mem_append.2 (.inl (tmpsOf_mem (by simpa using hx)))
  show fr.tm.get t = (maskT fr.tm pl).get t
  rw [get_maskT, if_neg (hd t ht)]
 | _ => rfl
theorem wantedA_mask {fr : Fr} {pl : List Nat} {ops : List Oper} {o : Oper} (hd : ∀ t ∈ readsOf ops o, t ∉ pl) : wantedA ops fr o = wantedA ops (maskF fr pl) o := by
 unfold wantedA
 split
 ·rfl
 ·rename_i j want hg
  split
  ·rfl
  ·rename_i oj hj
   split
   ·rfl
   ·rename_i d hdst
    have ht : d ∈ readsOf ops o := List.mem_append.2 (.inr (by simp [hg, hj, hdst]))
    have e : (maskF fr pl).tm.get d = fr.tm.get d := by
     show (maskT fr.tm pl).get d = _
     rw [get_maskT, if_neg (hd d ht)]
    rw [e]
end
open Go.RowKit (Below)
theorem aop_same {C : Ctx} {ev : Operand -> Option Value} {o : Oper} {st s : St} {v : Value} (he : isEff o.op = false) (hm : isMaker o.op = false) (h : aop C ev o st = some (.val v s)) (hn : s.n = st.n) : s = st := by
 have key : ∀ {u : Value} {s1 : St}, val u s1 = some (.val v s) -> s1 = st ∨ s1.n = st.n + 1 -> s = st := by
  intro u s1 h1 h2
  obtain ⟨_, rfl⟩ := val_eq h1
  rcases h2 with h2 | h2
  ·exact h2
  ·omega
 unfold aop at h
 split at h
 case h_28 c hop =>
  rw [hop] at he
  split at h
  ·cases h
  ·split at h
   ·rename_i bb hc
    obtain ⟨callee, args, argTypes⟩ := c
    simp only at hc
    subst hc
    unfold aBuiltin at h
    split at h <;> first | (simp [isEff] at he; done) | skip
    ·unfold aLen at h
     repeat' split at h
     all_goals first | cases h; done | exact key h (.inl rfl)
    ·repeat' split at h
     all_goals first | cases h; done | exact key h (.inl rfl)
    ·repeat' split at h
     all_goals first | cases h; done | exact key h (.inl rfl)
    ·cases h
   ·rename_i f hc
    exfalso
    obtain ⟨callee, args, argTypes⟩ := c
    simp only at hc
    subst hc
    simp [isEff] at he
   ·cases h
 case h_29 c hop => rw [hop] at he; simp [isEff] at he
 case h_30 x hop => rw [hop] at he; simp [isEff] at he
 case h_2 x hop => rw [hop] at he; simp [isEff] at he
 case h_9 t a x hop => rw [hop] at he; simp [isEff] at he
 case h_24 t mm k y hop => rw [hop] at he; simp [isEff] at he
 case h_25 t mm k y hop => rw [hop] at he; simp [isEff] at he
 case h_4 t hop => rw [hop] at hm; simp [isMaker] at hm
 case h_5 t x hop => rw [hop] at hm; simp [isMaker] at hm
 case h_7 t n ps hop => rw [hop] at hm; simp [isMaker] at hm
 case h_16 t hop => rw [hop] at hm; simp [isMaker] at hm
 case h_31 => cases h
 all_goals
  first
  | unfold aBuild at h
  | unfold aLoad at h
  | unfold aNilCheck at h
  | unfold aConvert at h
  | unfold aMakeInterface at h
  | unfold aMakeSlice at h
  | unfold aSlice at h
  | unfold aFieldAddr at h
  | unfold aField at h
  | unfold aIndexAddr at h
  | unfold aIndex at h
  | unfold aLookup at h
  | unfold aTypeAssert at h
  | unfold aExtract at h
  | skip
  repeat' split at h
  all_goals first | cases h; done | exact key h (.inl rfl) | exact key h (.inr rfl)
def dstAt (ops : Array Oper) (i : Nat) : Option Tmp := (ops[i]?).bind (·.dst)
def pend (ops : Array Oper) (D : Nat -> Bool) (pre : List Nat) : List Nat := (pre.filter fun i => !D i).filterMap (dstAt ops)
theorem mem_pend {ops : Array Oper} {D : Nat -> Bool} {pre : List Nat} {t : Nat} : t ∈ pend ops D pre ↔ ∃ i ∈ pre, D i = false /\ dstAt ops i = some t := by
 unfold pend
 rw [List.mem_filterMap]
 constructor
 ·rintro ⟨i, hi, hd⟩
  rw [List.mem_filter] at hi
  exact ⟨i, hi.1, by simpa using hi.2, hd⟩
 ·rintro ⟨i, hi, hD, hd⟩
  exact ⟨i, List.mem_filter.2 ⟨hi, by simp [hD]⟩, hd⟩
def ghosts (G : Nat -> Prop) (D : Nat -> Bool) (chks : List Chk) : Nat -> Prop := fun x => G x ∨ ∃ i v ob, Chk.obj i v x ob ∈ chks /\ D i = false
section
variable {C : Ctx} {w0 : World} {N0 : Nat} {G : Nat -> Prop} {fc : FC} {b : FB} {rc : Rec} {ops : Array Oper} {bs : List Nat} {m : Nat} {order : List Nat}
structure Down (ops : Array Oper) (D : Nat -> Bool) : Prop where
 dom : ∀ i, D i = true -> i < ops.size
 closed : ∀ i o, D i = true -> ops[i]? = some o -> ∀ e ∈ o.after.toList, Region.binds .any e = true -> D e.on = true
theorem Down.bits {D : Nat -> Bool} (h : Down ops D) (hp : PlanFacts ops bs m order) : ∀ i j, D i = true -> bitAt bs i j = true -> D j = true := by
 intro i
 induction i using Nat.strongRecOn with
 | _ i ih =>
  intro j hi hb
  have hlt := h.dom i hi
  have ho : ops[i]? = some ops[i] := Array.getElem?_eq_getElem hlt
  obtain ⟨e, he, hbd, h1 | h1⟩ := hp.bits i _ ho j hb
  ·rw [<- h1]; exact h.closed i _ hi ho e he hbd
  ·exact ih e.on (hp.back i _ ho e he hbd) j (h.closed i _ hi ho e he hbd) h1
theorem Down.ready {D : Nat -> Bool} (h : Down ops D) (hp : PlanFacts ops bs m order) {i : Nat} {o : Oper} (ho : ops[i]? = some o) (he : ∀ e ∈ o.after.toList, Region.binds .any e = true -> D e.on = true) {j : Nat} (hb : bitAt bs i j = true) : D j = true := by
 obtain ⟨e, he', hbd, h1 | h1⟩ := hp.bits i _ ho j hb
 ·rw [<- h1]; exact he e he' hbd
 ·exact h.bits hp e.on j (he e he' hbd) h1
theorem Down.add {D : Nat -> Bool} (h : Down ops D) {i : Nat} {o : Oper} (ho : ops[i]? = some o) (he : ∀ e ∈ o.after.toList, Region.binds .any e = true -> D e.on = true) : Down ops (fun x => D x || x == i) := by
 refine ⟨fun x hx => ?_, fun x ox hx hox e hee hbd => ?_⟩
 ·simp only [Bool.or_eq_true, beq_iff_eq] at hx
  rcases hx with hx | rfl
  ·exact h.dom x hx
  ·rcases Nat.lt_or_ge x ops.size with hh | hh
   ·exact hh
   ·rw [Array.getElem?_eq_none hh] at ho; cases ho
 ·simp only [Bool.or_eq_true, beq_iff_eq] at hx ⊢
  rcases hx with hx | rfl
  ·exact .inl (h.closed x ox hx hox e hee hbd)
  ·rw [ho] at hox; cases hox
   exact .inl (he e hee hbd)
structure Inv (w0 : World) (N0 : Nat) (G : Nat -> Prop) (ops : Array Oper) (bs : List Nat) (m : Nat) (fc : FC) (b : FB) (D : Nat -> Bool) (pre : List Nat) (bb : Nat) (chks : List Chk) (fr : Fr) (ps : PanS) (st : St) (ρ : Ren) (w : World) (tm : Array Value) (df : List Deferred) (cs : List Frame) : Prop where
 down : Down ops D
 sub : ∀ i, D i = true -> i < m -> i ∈ pre
 effD : ∀ i ∈ pre, isEffAt ops.toList i = true -> D i = true
 cover : ∀ i ∈ pre, isEffAt ops.toList i = false -> ∃ c ∈ chks, c.idx = i
 lastb : ∀ j, Nat.testBit bb j = true -> ∃ e, D e = true /\ bitAt bs e j = true
 objs : ∀ i v N ob, Chk.obj i v N ob ∈ chks -> D i = false -> N < st.n
 uniq : ∀ i v N ob i' v' ob', Chk.obj i v N ob ∈ chks -> Chk.obj i' v' N ob' ∈ chks -> D i = false -> D i' = false -> i = i'
 chkn : ∀ c ∈ chks, isEffAt ops.toList c.idx = false /\ c.idx ∈ pre
 dlt : ∀ c ∈ chks, ∀ d, dstAt ops c.idx = some d -> d < fc.nt
 objg : ∀ i v N ob, Chk.obj i v N ob ∈ chks -> ¬ G N
 world : WRel w0 N0 (ghosts G D chks) ρ st w
 frame : FRel ρ fc (maskF fr (pend ops D pre)) b tm df
 pan : PRel ρ fc.dfd ps cs
theorem setDst_get {nt : Nat} {fr fr1 : Fr} {dst : Option Tmp} {v : Value} (h : setDst nt fr dst v = some fr1) : fr1.df = fr.df /\ (∀ t, dst ≠ some t -> fr1.tm.get t = fr.tm.get t) /\ ∀ d, dst = some d -> d < nt := by
 unfold setDst at h
 split at h
 ·cases h; exact ⟨rfl, (fun _ _ => rfl), (fun d e => by cases e)⟩
 ·rename_i d
  split at h
  ·rename_i hlt
   cases h
   refine ⟨rfl, fun t ht => ?_, fun d' e => by cases e; exact Nat.blt_eq.mp hlt⟩
   show (fr.tm.set d v).get t = _
   rw [Tr.get_set, if_neg (fun e => ht (by rw [e]))]
  ·cases h
theorem FRel.sub {ρ : Ren} {fr fr' : Fr} {tm : Array Value} {df : List Deferred} (h : FRel ρ fc fr b tm df) (hdf : fr'.df = fr.df) (ht : ∀ t v, fr'.tm.get t = some v -> fr.tm.get t = some v) : FRel ρ fc fr' b tm df :=
 ⟨h.fn, h.round, h.kind, ⟨h.tm.1, fun i v hv => h.tm.2 i v (ht i v hv)⟩, by rw [hdf]; exact h.df⟩
theorem advance (hp : PlanFacts ops bs m order) {D : Nat -> Bool} {bb : Nat} {ps : PanS} {res : Ex × Fr × PanS × St} {ρ : Ren} {w : World} {tm : Array Value} {df : List Deferred} {cs : List Frame} :
  ∀ (order' pre : List Nat) (chks : List Chk) (fr : Fr) (st : St), order = pre ++ order' -> drawOps C rc fc ops.toList bs order' bb chks fr ps st = some res -> Inv w0 N0 G ops bs m fc b D pre bb chks fr ps st ρ w tm df cs ->
  ∃ pre2 order2 chks2 fr2 st2, order = pre2 ++ order2 /\ drawOps C rc fc ops.toList bs order2 bb chks2 fr2 ps st2 = some res /\ Inv w0 N0 G ops bs m fc b D pre2 bb chks2 fr2 ps st2 ρ w tm df cs /\ (order2 = [] ∨ ∃ e r, order2 = e :: r /\ isEffAt ops.toList e = true) := by
 intro order'
 induction order' with
 | nil => intro pre chks fr st ho h hi; exact ⟨pre, [], chks, fr, st, ho, h, hi, .inl rfl⟩
 | cons i r ih =>
  intro pre chks fr st ho h hi
  cases heff : isEffAt ops.toList i with
  | true => exact ⟨pre, i :: r, chks, fr, st, ho, h, hi, .inr ⟨i, r, rfl, heff⟩⟩
  | false =>
   have ho' : order = (pre ++ [i]) ++ r := by rw [ho]; simp
   have hipre : i ∉ pre := by
    have := hp.nodup
    rw [ho, List.nodup_append] at this
    intro hmem
    exact this.2.2 i hmem i (by simp) rfl
   have him : i < m := hp.lt i (by rw [ho]; simp)
   have hDi : D i = false := by
    cases hd : D i with
    | false => rfl
    | true => exact absurd (hi.sub i hd him) hipre
   rw [drawOps] at h
   split at h
   ·rename_i o bi hno hnb
    rw [nth_eq, Array.getElem?_toList] at hno
    have hoe : isEff o.op = false := by
     unfold isEffAt at heff
     rw [nth_eq, Array.getElem?_toList, hno] at heff
     exact heff
    have hdst : dstAt ops i = o.dst := by unfold dstAt; rw [hno]; rfl
    simp only [hoe] at h
    have common : ∀ (c : Chk) (fr1 : Fr) (st1 : St) (v : Value), c.idx = i -> setDst fc.nt fr o.dst v = some fr1 ->
      (∀ i' v' N ob, Chk.obj i' v' N ob ∈ c :: chks -> D i' = false -> N < st1.n) -> (∀ i1 v1 N ob1 i2 v2 ob2, Chk.obj i1 v1 N ob1 ∈ c :: chks -> Chk.obj i2 v2 N ob2 ∈ c :: chks -> D i1 = false -> D i2 = false -> i1 = i2) ->
      (∀ i' v' N ob, Chk.obj i' v' N ob ∈ c :: chks -> ¬ G N) -> WRel w0 N0 (ghosts G D (c :: chks)) ρ st1 w -> Inv w0 N0 G ops bs m fc b D (pre ++ [i]) bb (c :: chks) fr1 ps st1 ρ w tm df cs := by
     intro c fr1 st1 v hc hset hobjs huniq hobjg hworld
     obtain ⟨hdf, hget, hnt⟩ := setDst_get hset
     refine ⟨hi.down, fun j hj hjm => by simp [hi.sub j hj hjm], fun j hj he => ?_, fun j hj he => ?_, hi.lastb, hobjs, huniq, fun c' hc' => ?_, fun c' hc' d hd => ?_, hobjg, hworld, ?_, hi.pan⟩
     ·rcases List.mem_append.1 hj with hj | hj
      ·exact hi.effD j hj he
      ·simp at hj; subst hj; rw [heff] at he; cases he
     ·rcases List.mem_append.1 hj with hj | hj
      ·obtain ⟨c', hc', e'⟩ := hi.cover j hj he; exact ⟨c', by simp [hc'], e'⟩
      ·simp at hj; subst hj; exact ⟨c, by simp, hc⟩
     ·rcases List.mem_cons.1 hc' with rfl | hc'
      ·rw [hc]; exact ⟨heff, by simp⟩
      ·obtain ⟨h1, h2⟩ := hi.chkn c' hc'; exact ⟨h1, by simp [h2]⟩
     ·rcases List.mem_cons.1 hc' with rfl | hc'
      ·rw [hc, hdst] at hd; exact hnt d hd
      ·exact hi.dlt c' hc' d hd
     ·refine hi.frame.sub (fr' := maskF fr1 (pend ops D (pre ++ [i]))) hdf fun t u hu => ?_
      have hu' : (maskT fr1.tm (pend ops D (pre ++ [i]))).get t = some u := hu
      rw [get_maskT] at hu'
      split at hu'
      ·cases hu'
      ·rename_i hnp
       show (maskT fr.tm (pend ops D pre)).get t = some u
       have h1 : t ∉ pend ops D pre := fun hm => hnp (by
        rw [mem_pend] at hm ⊢
        obtain ⟨j, hj, hd, he⟩ := hm
        exact ⟨j, by simp [hj], hd, he⟩)
       have h2 : o.dst ≠ some t := fun e => hnp (by
        rw [mem_pend]
        exact ⟨i, by simp, hDi, by rw [hdst]; exact e⟩)
       rw [get_maskT, if_neg h1, <- hget t h2]
       exact hu'
    split at h
    ·cases h
    ·rename_i hwa
     split at h
     ·rename_i fr1 hset
      exact ih (pre ++ [i]) (.skip i :: chks) fr1 st ho' h (common (.skip i) fr1 st undefV rfl hset
       (fun i' v' N ob hm hd => by rcases List.mem_cons.1 hm with e | hm; cases e; exact hi.objs _ _ _ _ hm hd)
       (fun i1 v1 N ob1 i2 v2 ob2 h1 h2 d1 d2 => by
        rcases List.mem_cons.1 h1 with e | h1
        ·cases e
        ·rcases List.mem_cons.1 h2 with e | h2
         ·cases e
         ·exact hi.uniq _ _ _ _ _ _ _ h1 h2 d1 d2)
       (fun i' v' N ob hm => by rcases List.mem_cons.1 hm with e | hm; cases e; exact hi.objg _ _ _ _ hm)
       (hi.world.fewer (by
        rintro x (hx | ⟨i', v', ob, hm, hd⟩)
        ·exact .inl hx
        ·rcases List.mem_cons.1 hm with e | hm
         ·cases e
         ·exact .inr ⟨i', v', ob, hm, hd⟩)))
     ·cases h
    ·rename_i hwa
     split at h
     ·rename_i v st1 ha
      split at h
      ·cases h
      ·rename_i fr1 hset
       split at h
       ·rename_i hmk
        obtain ⟨ob', rfl, hown⟩ := maker_new hmk ha
        split at h
        ·rename_i ob hob
         rw [St.get_new, if_pos rfl] at hob
         cases hob
         exact ih (pre ++ [i]) (.obj i v st.n ob' :: chks) fr1 (st.new ob') ho' h (common (.obj i v st.n ob') fr1 (st.new ob') v rfl hset
          (fun i' v' N ob2 hm hd => by
           show N < st.n + 1
           rcases List.mem_cons.1 hm with e | hm
           ·cases e; omega
           ·have := hi.objs _ _ _ _ hm hd; omega)
          (fun i1 v1 N ob1 i2 v2 ob2 h1 h2 d1 d2 => by
           rcases List.mem_cons.1 h1 with e | h1
           ·cases e
            rcases List.mem_cons.1 h2 with e | h2
            ·cases e; rfl
            ·have := hi.objs _ _ _ _ h2 d2; omega
           ·rcases List.mem_cons.1 h2 with e | h2
            ·cases e
             have := hi.objs _ _ _ _ h1 d1; omega
            ·exact hi.uniq _ _ _ _ _ _ _ h1 h2 d1 d2)
          (fun i' v' N ob hm => by
           rcases List.mem_cons.1 hm with e | hm
           ·cases e; exact fun hg => absurd (hi.world.gho _ (.inl hg)).2 (Nat.lt_irrefl _)
           ·exact hi.objg _ _ _ _ hm)
          ((hi.world.ghostNew hown).fewer (by
           rintro x (hx | ⟨i', v', ob2, hm, hd⟩)
           ·exact .inl (.inl hx)
           ·rcases List.mem_cons.1 hm with e | hm
            ·cases e; exact .inr rfl
            ·exact .inl (.inr ⟨i', v', ob2, hm, hd⟩))))
        ·cases h
       ·rename_i hmk
        split at h
        ·rename_i hbn
         have := aop_same hoe hmk ha (Nat.eq_of_beq_eq_true hbn)
         subst this
         exact ih (pre ++ [i]) (.val i v :: chks) fr1 st1 ho' h (common (.val i v) fr1 st1 v rfl hset
          (fun i' v' N ob hm hd => by rcases List.mem_cons.1 hm with e | hm; cases e; exact hi.objs _ _ _ _ hm hd)
          (fun i1 v1 N ob1 i2 v2 ob2 h1 h2 d1 d2 => by
           rcases List.mem_cons.1 h1 with e | h1
           ·cases e
           ·rcases List.mem_cons.1 h2 with e | h2
            ·cases e
            ·exact hi.uniq _ _ _ _ _ _ _ h1 h2 d1 d2)
          (fun i' v' N ob hm => by rcases List.mem_cons.1 hm with e | hm; cases e; exact hi.objg _ _ _ _ hm)
          (hi.world.fewer (by
           rintro x (hx | ⟨i', v', ob, hm, hd⟩)
           ·exact .inl hx
           ·rcases List.mem_cons.1 hm with e | hm
            ·cases e
            ·exact .inr ⟨i', v', ob, hm, hd⟩)))
        ·cases h
     ·cases h
   ·cases h
end
open Go.RowKit (Below)
theorem recheck_spec {C : Ctx} {ops : List Oper} {fr : Fr} {st : St} {b : Nat} : ∀ {chks : List Chk}, recheck C ops fr st b chks = true -> ∀ c ∈ chks, Nat.testBit b c.idx = true ∨ stands C ops fr st c = true := by
 intro chks
 induction chks with
 | nil => intro _ c hc; simp at hc
 | cons x chks ih =>
  intro h c hc
  simp only [recheck, Bool.and_eq_true, Bool.or_eq_true] at h
  rcases List.mem_cons.1 hc with rfl | hc
  ·exact h.1
  ·exact ih h.2 c hc
def OpMask (pl : List Nat) : OpR -> OpR -> Prop
 | .next fr1 ps1 st1, .next fr2 ps2 st2 => ps2 = ps1 /\ st2 = st1 /\ fr2.df = fr1.df /\ ∀ t, t ∉ pl -> fr2.tm.get t = fr1.tm.get t
 | .pan v1 _ ps1 st1, .pan v2 _ ps2 st2 => v2 = v1 /\ ps2 = ps1 /\ st2 = st1
 | _, _ => False
theorem go_mask {nt : Nat} {fr fr2 : Fr} {dst : Option Tmp} {v : Value} {ps : PanS} {st : St} {r : OpR} {pl : List Nat} (hdf : fr2.df = fr.df) (ht : ∀ t, t ∉ pl -> fr2.tm.get t = fr.tm.get t) (h : OpR.go nt fr dst v ps st = some r) :
  ∃ r2, OpR.go nt fr2 dst v ps st = some r2 /\ OpMask pl r r2 := by
 unfold OpR.go setDst at h ⊢
 cases dst with
 | none => cases h; exact ⟨_, rfl, rfl, rfl, hdf, ht⟩
 | some d =>
  simp only at h ⊢
  cases hb : Nat.blt d nt with
  | false => rw [hb] at h; cases h
  | true =>
   rw [hb] at h
   cases h
   refine ⟨_, rfl, rfl, rfl, hdf, fun t htp => ?_⟩
   show (fr2.tm.set d v).get t = (fr.tm.set d v).get t
   rw [Tr.get_set, Tr.get_set, ht t htp]
theorem stepOp_mask {C : Ctx} {rc : Rec} {fc : FC} {ops : List Oper} {o : Oper} {fr : Fr} {ps : PanS} {st : St} {r : OpR} {pl : List Nat} (hd : ∀ t ∈ readsOf ops o, t ∉ pl) (h : stepOp C rc fc ops o fr ps st = some r) :
  ∃ r2, stepOp C rc fc ops o (maskF fr pl) ps st = some r2 /\ OpMask pl r r2 := by
 have hdf : (maskF fr pl).df = fr.df := rfl
 have htm : ∀ t, t ∉ pl -> (maskF fr pl).tm.get t = fr.tm.get t := fun t ht => by
  show (maskT fr.tm pl).get t = _
  rw [get_maskT, if_neg ht]
 unfold stepOp at h ⊢
 rw [<- wantedA_mask hd]
 split at h
 ·cases h
 ·exact go_mask hdf htm h
 ·unfold runOp at h ⊢
  rw [<- aop_congr o (evOp_mask hd)]
  split at h
  ·cases h
  ·exact go_mask hdf htm h
  ·cases h; exact ⟨_, rfl, rfl, rfl, rfl⟩
  ·split at h
   ·exact go_mask hdf htm h
   ·cases h; exact ⟨_, rfl, rfl, rfl, rfl⟩
   ·cases h
  ·split at h
   ·exact go_mask hdf htm h
   ·cases h; exact ⟨_, rfl, rfl, rfl, rfl⟩
   ·cases h
  ·split at h
   ·cases h
   ·split at h
    ·exact go_mask hdf htm h
    ·exact go_mask hdf htm h
  ·rename_i d hda
   split at h
   ·cases h
   ·exact go_mask (fr := { fr with df := d :: fr.df }) (fr2 := { maskF fr pl with df := d :: fr.df }) rfl htm h
section
variable {C : Ctx} {w0 : World} {N0 : Nat} {G : Nat -> Prop} {fc : FC} {b : FB} {rc : Rec} {ops : Array Oper} {bs : List Nat} {m : Nat} {order : List Nat}
def DrawRes (C : Ctx) (w0 : World) (N0 : Nat) (G : Nat -> Prop) (ops : Array Oper) (m : Nat) (ρ : Ren) (fc : FC) (m0 : Machine) (b : FB) (k : List Item) (ps : PanS) (cs : List Frame) (res : Ex × Fr × PanS × St) : Prop :=
 match res with
 | (.norm, fr', ps', st') => ∃ D' L' ρ' w' tm' df' cs', Lin ops D' L' /\ Down ops D' /\ (∀ i, i < m -> D' i = true) /\ ρ.le ρ' /\ WRel w0 N0 G ρ' st' w' /\ FRel ρ' fc fr' b tm' df' /\ PStep ps ps' cs cs' /\
   Steps C.P m0 (lone (mkF b tm' df' (.inRegion ops L' :: k)) cs' w') /\ (∀ i, m <= i -> D' i = false)
 | (x, fr', ps', st') => CodeRes C w0 N0 G ρ fc m0 b k ps cs x fr' ps' st'
theorem DrawRes.of_steps {ρ ρ1 : Ren} {m0 m1 : Machine} {k : List Item} {ps ps1 : PanS} {cs cs1 : List Frame} {res : Ex × Fr × PanS × St} (hle : ρ.le ρ1) (hps : PStep ps ps1 cs cs1) (hst : Steps C.P m0 m1) (h : DrawRes C w0 N0 G ops m ρ1 fc m1 b k ps1 cs1 res) : DrawRes C w0 N0 G ops m ρ fc m0 b k ps cs res := by
 obtain ⟨x, fr', ps', st'⟩ := res
 cases x with
 | norm =>
  obtain ⟨D', L', ρ', w', tm', df', cs', h1, h2, h3, h4, h5, h6, h7, h8, h9⟩ := h
  exact ⟨D', L', ρ', w', tm', df', cs', h1, h2, h3, hle.trans h4, h5, h6, hps.trans h7, hst.trans h8, h9⟩
 | _ =>
  obtain ⟨ρ', w', tm', df', cs', h4, h5, h6, h7, h8⟩ := h
  exact ⟨ρ', w', tm', df', cs', hle.trans h4, h5, h6, hps.trans h7, .of_steps hst h8⟩
theorem tmpIs_get {fr : Fr} {d : Tmp} {v : Value} (h : tmpIs fr (some d) v = true) : fr.tm.get d = some v := by
 unfold tmpIs at h
 simp only at h
 split at h
 ·rename_i u hu; rw [hu, veq_eq _ _ h]
 ·cases h
theorem isSome_eq {r : Option Bool} {x : Bool} (h : isSome r x = true) : r = some x := by
 unfold isSome at h
 split at h
 ·rfl
 ·rfl
 ·cases h
theorem frame_done {ρ ρ' : Ren} {D : Nat -> Bool} {pre : List Nat} {fr : Fr} {tm : Array Value} {df : List Deferred} {i : Nat} {o : Oper} {v v' : Value} (ho : ops[i]? = some o) (hf : FRel ρ fc (maskF fr (pend ops D pre)) b tm df) (hle : ρ.le ρ') (ht : tmpIs fr o.dst v = true) (hv : VRel ρ' v v')
  (hnt : ∀ d, o.dst = some d -> d < fc.nt) : FRel ρ' fc (maskF fr (pend ops (fun x => D x || x == i) pre)) b (putT tm o.dst v') df := by
 have hf' := hf.mono hle
 refine ⟨hf'.fn, hf'.round, hf'.kind, ⟨?_, fun t u hu => ?_⟩, hf'.df⟩
 ·have := hf'.tm.1
  unfold putT
  split <;> simp [this]
 ·have hu' : (maskT fr.tm (pend ops (fun x => D x || x == i) pre)).get t = some u := hu
  rw [get_maskT] at hu'
  split at hu'
  ·cases hu'
  ·rename_i hnp
   cases hdst : o.dst with
   | none =>
    have hnp' : t ∉ pend ops D pre := fun hm => hnp (by
     rw [mem_pend] at hm ⊢
     obtain ⟨j, hj, hd, he⟩ := hm
     refine ⟨j, hj, ?_, he⟩
     have hji : j ≠ i := fun e => by subst e; unfold dstAt at he; rw [ho] at he; simp [hdst] at he
     simp [hd, hji])
    obtain ⟨u', e, r⟩ := hf'.tm.2 t u (by show (maskT fr.tm (pend ops D pre)).get t = some u; rw [get_maskT, if_neg hnp']; exact hu')
    exact ⟨u', by simpa [putT] using e, r⟩
   | some d =>
    rw [hdst] at ht
    by_cases htd : t = d
    ·subst htd
     rw [tmpIs_get ht] at hu'
     cases hu'
     refine ⟨v', ?_, hv⟩
     simp only [putT]
     rw [Array.getElem?_setIfInBounds_self_of_lt (by rw [hf'.tm.1]; exact hnt t hdst)]
    ·have hnp' : t ∉ pend ops D pre := fun hm => hnp (by
      rw [mem_pend] at hm ⊢
      obtain ⟨j, hj, hd, he⟩ := hm
      refine ⟨j, hj, ?_, he⟩
      have hji : j ≠ i := fun e => by subst e; unfold dstAt at he; rw [ho] at he; simp [hdst] at he; exact htd he.symm
      simp [hd, hji])
     obtain ⟨u', e, r⟩ := hf'.tm.2 t u (by show (maskT fr.tm (pend ops D pre)).get t = some u; rw [get_maskT, if_neg hnp']; exact hu')
     refine ⟨u', ?_, r⟩
     simp only [putT]
     rw [Array.getElem?_setIfInBounds_ne (fun e => htd e.symm)]
     exact e
theorem Inv.reads {hp : PlanFacts ops bs m order} {D : Nat -> Bool} {pre : List Nat} {bb : Nat} {chks : List Chk} {fr : Fr} {ps : PanS} {st : St} {ρ : Ren} {w : World} {tm : Array Value} {df : List Deferred} {cs : List Frame} (hi : Inv w0 N0 G ops bs m fc b D pre bb chks fr ps st ρ w tm df cs)
  {i : Nat} {o : Oper} (ho : ops[i]? = some o) (he : ∀ e ∈ o.after.toList, Region.binds .any e = true -> D e.on = true) : ∀ t ∈ readsOf ops.toList o, t ∉ pend ops D pre := by
 intro t ht hm
 rw [mem_pend] at hm
 obtain ⟨j, hj, hDj, hdj⟩ := hm
 unfold dstAt at hdj
 cases hoj : ops[j]? with
 | none => rw [hoj] at hdj; simp at hdj
 | some oj =>
  rw [hoj] at hdj
  simp at hdj
  have hne : isEff oj.op = false := by
   cases hq : isEff oj.op with
   | false => rfl
   | true =>
    have : isEffAt ops.toList j = true := by unfold isEffAt; rw [nth_eq, Array.getElem?_toList, hoj]; exact hq
    rw [hi.effD j hj this] at hDj; cases hDj
  have := hp.reads j oj t hoj hne hdj i o ho ht
  rw [hi.down.ready hp ho he this] at hDj
  cases hDj
theorem eff_of {i : Nat} {o : Oper} (ho : ops[i]? = some o) : isEffAt ops.toList i = isEff o.op := by
 unfold isEffAt
 rw [nth_eq, Array.getElem?_toList, ho]
theorem quiet_step (hT : TOk C) (hF : FOk C) (hE : ExtOk C) (hp : PlanFacts ops bs m order) {D : Nat -> Bool} {pre : List Nat} {bb : Nat} {chks : List Chk} {fr : Fr} {ps : PanS} {st : St} {ρ : Ren} {w : World} {tm : Array Value} {df : List Deferred} {cs : List Frame} (hi : Inv w0 N0 G ops bs m fc b D pre bb chks fr ps st ρ w tm df cs)
  (hr : recheck C ops.toList fr st bb chks = true) {i : Nat} {o : Oper} (ho : ops[i]? = some o) (hD : D i = false) (he : ∀ e ∈ o.after.toList, Region.binds .any e = true -> D e.on = true) (hpre : i ∈ pre) (L : List Nat) (k : List Item) :
  ∃ ρ' w' tm', ρ.le ρ' /\ Steps C.P (lone (mkF b tm df (.inRegion ops (i :: L) :: k)) cs w) (lone (mkF b tm' df (.inRegion ops L :: k)) cs w') /\ Inv w0 N0 G ops bs m fc b (fun x => D x || x == i) pre bb chks fr ps st ρ' w' tm' df cs := by
 have hne : isEffAt ops.toList i = false := by
  cases hq : isEffAt ops.toList i with
  | false => rfl
  | true => rw [hi.effD i hpre hq] at hD; cases hD
 have hoe : isEff o.op = false := by rw [<- eff_of ho]; exact hne
 have hdown := hi.down.add ho he
 obtain ⟨c, hc, hci⟩ := hi.cover i hpre hne
 have hreads := Inv.reads (hp := hp) hi ho he
 have hst : stands C ops.toList fr st c = true := by
  rcases recheck_spec hr c hc with h | h
  ·exfalso
   rw [hci] at h
   obtain ⟨e, h1, h2⟩ := hi.lastb i h
   rw [hi.down.bits hp e i h1 h2] at hD
   cases hD
  ·exact h
 have hnth : nth ops.toList i = some o := by rw [nth_eq, Array.getElem?_toList]; exact ho
 have hdlt : ∀ d, o.dst = some d -> d < fc.nt := by
  intro d hd
  exact hi.dlt c hc d (by rw [hci]; unfold dstAt; rw [ho]; exact hd)
 have after : ∀ (ρ' : Ren) (w' : World) (tm' : Array Value), WRel w0 N0 (ghosts G (fun x => D x || x == i) chks) ρ' st w' -> FRel ρ' fc (maskF fr (pend ops (fun x => D x || x == i) pre)) b tm' df -> ρ.le ρ' ->
   Inv w0 N0 G ops bs m fc b (fun x => D x || x == i) pre bb chks fr ps st ρ' w' tm' df cs := by
  intro ρ' w' tm' h1 h2 hle
  refine ⟨hdown, fun j hj hjm => ?_, fun j hj hje => ?_, hi.cover, fun j hj => ?_, fun i' v' N ob hm hd => hi.objs _ _ _ _ hm (by simp only [Bool.or_eq_false_iff] at hd; exact hd.1), fun i1 v1 N ob1 i2 v2 ob2 h1 h2 d1 d2 => hi.uniq _ _ _ _ _ _ _ h1 h2 (by simp only [Bool.or_eq_false_iff] at d1; exact d1.1) (by simp only [Bool.or_eq_false_iff] at d2; exact d2.1), hi.chkn, hi.dlt, hi.objg, h1, h2, hi.pan.mono hle⟩
  ·simp only [Bool.or_eq_true, beq_iff_eq] at hj
   rcases hj with hj | rfl
   ·exact hi.sub j hj hjm
   ·exact hpre
  ·simp [hi.effD j hj hje]
  ·obtain ⟨e, e1, e2⟩ := hi.lastb j hj
   exact ⟨e, by simp [e1], e2⟩
 have hghost : ∀ x, ghosts G (fun x => D x || x == i) chks x -> ghosts G D chks x := by
  rintro x (hx | ⟨j, v, ob, hm, hd⟩)
  ·exact .inl hx
  ·simp only [Bool.or_eq_false_iff] at hd
   exact .inr ⟨j, v, ob, hm, hd.1⟩
 cases c with
 | val j v =>
  simp only [Chk.idx] at hci
  subst hci
  simp only [stands, hnth, Bool.and_eq_true] at hst
  obtain ⟨⟨⟨hwa, hmk⟩, hti⟩, hval⟩ := hst
  have hwa := isSome_eq hwa
  split at hval
  ·rename_i u s ha
   simp only [Bool.and_eq_true] at hval
   have := veq_eq _ _ hval.1
   subst this
   have hs := aop_same hoe (by simpa using hmk) ha (Nat.eq_of_beq_eq_true hval.2)
   subst hs
   have ha' : aop C (evOp (maskF fr (pend ops D pre))) o s = some (.val u s) := by rw [<- aop_congr o (evOp_mask hreads)]; exact ha
   obtain ⟨ρ', v', w', hrun, kept⟩ := aop_sim hT hF hE hi.world (evOp_rel hi.frame.tm) ha'
   refine ⟨ρ', w', putT tm o.dst v', kept.le, .one (st_value ho ?_ (.inr (not_defer_of ha (by intro d e; cases e))) hrun), ?_⟩
   ·exact wanted_rel hi.frame.tm (by rw [<- wantedA_mask hreads]; exact hwa)
   ·exact after ρ' w' _ (kept.world.fewer hghost) (frame_done ho hi.frame kept.le hti kept.value hdlt) kept.le
  ·cases hval
 | skip j =>
  simp only [Chk.idx] at hci
  subst hci
  simp only [stands, hnth, Bool.and_eq_true] at hst
  have hwa := isSome_eq hst.1
  refine ⟨ρ, w, putT tm o.dst undef, Ren.le_refl _, .one (st_unwanted ho ?_), ?_⟩
  ·exact wanted_rel hi.frame.tm (by rw [<- wantedA_mask hreads]; exact hwa)
  ·exact after ρ w _ (hi.world.fewer hghost) (frame_done (v' := undef) ho hi.frame (Ren.le_refl _) hst.2 (.tuple .nil) hdlt) (Ren.le_refl _)
 | obj j v N ob =>
  simp only [Chk.idx] at hci
  subst hci
  simp only [stands, hnth, Bool.and_eq_true] at hst
  obtain ⟨⟨⟨⟨hwa, hmk⟩, hti⟩, hob⟩, hval⟩ := hst
  have hwa := isSome_eq hwa
  split at hob
  ·rename_i o' hg
   have := objEq_eq hob
   subst this
   split at hval
   ·rename_i u s ha
    simp only [Bool.and_eq_true] at hval
    have := veq_eq _ _ hval.1
    subst this
    have hval2 := hval.2
    split at hval2
    ·rename_i o2 hg2
     have := objEq_eq hval2
     subst this
     have ha' : aop C (evOp (maskF fr (pend ops D pre))) o ⟨.nil, N, .nil⟩ = some (.val u s) := by rw [<- aop_congr o (evOp_mask hreads)]; exact ha
     obtain ⟨v', co, l, hrun, hl, hrel⟩ := maker_sim (w := w) hT (evOp_rel hi.frame.tm) hmk ha' hg2
     have hN : ρ N = none := (hi.world.gho N (.inr ⟨j, u, o2, hc, hD⟩)).1
     have hadd := Ren.le_add (l := l) hN
     obtain ⟨hor, hvr⟩ := hrel (ρ.add N l) hadd (Ren.add_same _ _ _)
     refine ⟨ρ.add N l, { w with heap := w.heap.push co }, putT tm o.dst v', hadd, .one (st_value ho ?_ (.inr (not_defer_of ha (by intro d e; cases e))) (.inl hrun)), ?_⟩
     ·exact wanted_rel hi.frame.tm (by rw [<- wantedA_mask hreads]; exact hwa)
     ·refine after _ _ _ (hi.world.realize hN (hi.objs _ _ _ _ hc hD) hg hl hor fun x hx => ⟨hghost x hx, ?_⟩) (frame_done ho hi.frame hadd hti hvr hdlt) hadd
      rintro rfl
      rcases hx with hx | ⟨j', v2, ob2, hm, hd⟩
      ·exact hi.objg _ _ _ _ hc hx
      ·simp only [Bool.or_eq_false_iff] at hd
       have := hi.uniq _ _ _ _ _ _ _ hc hm hD hd.1
       subst this
       simp at hd
    ·cases hval2
   ·cases hval
  ·cases hob
theorem eraseDsts_get : ∀ (l : List Oper) (tm : Tr Value) (t : Nat) (u : Value), (l.foldl (fun tm o => match o.dst with | some d => (match isEff o.op with | true => tm | false => tm.put d none) | none => tm) tm).get t = some u ->
  tm.get t = some u /\ ∀ o ∈ l, isEff o.op = false -> o.dst ≠ some t := by
 intro l
 induction l with
 | nil => intro tm t u h; exact ⟨h, fun o ho => by simp at ho⟩
 | cons x l ih =>
  intro tm t u h
  simp only [List.foldl_cons] at h
  obtain ⟨h1, h2⟩ := ih _ t u h
  split at h1
  ·rename_i d hd
   split at h1
   ·rename_i he
    refine ⟨h1, fun o ho hne => ?_⟩
    rcases List.mem_cons.1 ho with rfl | ho
    ·rw [he] at hne; cases hne
    ·exact h2 o ho hne
   ·rw [Tr.get_put] at h1
    split at h1
    ·cases h1
    ·rename_i htd
     refine ⟨h1, fun o ho hne => ?_⟩
     rcases List.mem_cons.1 ho with rfl | ho
     ·rw [hd]; intro e; cases e; exact htd rfl
     ·exact h2 o ho hne
  ·rename_i hd
   refine ⟨h1, fun o ho hne => ?_⟩
   rcases List.mem_cons.1 ho with rfl | ho
   ·rw [hd]; intro e; cases e
   ·exact h2 o ho hne
theorem draw_sound (hT : TOk C) (hF : FOk C) (hE : ExtOk C) (hR : ∀ G, RecOk C w0 N0 G rc) (hp : PlanFacts ops bs m order) (k : List Item) {D : Nat -> Bool} {L : List Nat} (hlin : Lin ops D L) :
  ∀ (pre order' : List Nat) (bb : Nat) (chks : List Chk) (fr : Fr) (ps : PanS) (st : St) (ρ : Ren) (w : World) (tm : Array Value) (df : List Deferred) (cs : List Frame) (res : Ex × Fr × PanS × St),
  order = pre ++ order' -> drawOps C rc fc ops.toList bs order' bb chks fr ps st = some res -> (∀ i, m <= i -> D i = false) -> Inv w0 N0 G ops bs m fc b D pre bb chks fr ps st ρ w tm df cs ->
  DrawRes C w0 N0 G ops m ρ fc (lone (mkF b tm df (.inRegion ops L :: k)) cs w) b k ps cs res := by
 induction hlin with
 | @nil D hall =>
  intro pre order' bb chks fr ps st ρ w tm df cs res hord h hmD hi
  obtain ⟨pre2, order2, chks2, fr2, st2, hord2, h2, hi2, htau⟩ := advance hp order' pre chks fr st hord h hi
  have hallm : ∀ i, i < m -> D i = true := fun i hi' => hall i (Nat.lt_of_lt_of_le hi' hp.mle)
  have hnil : order2 = [] := by
   rcases htau with h | ⟨e, r, rfl, he⟩
   ·exact h
   ·exfalso
    have hem : e < m := hp.lt e (by rw [hord2]; simp)
    have hep := hi2.sub e (hallm e hem) hem
    have := hp.nodup
    rw [hord2, List.nodup_append] at this
    exact this.2.2 e hep e (by simp) rfl
  subst hnil
  simp only [drawOps] at h2
  split at h2
  ·cases h2
   have hpend : pend ops D pre2 = [] := by
    cases hq : pend ops D pre2 with
    | nil => rfl
    | cons t l =>
     have : t ∈ pend ops D pre2 := by rw [hq]; simp
     rw [mem_pend] at this
     obtain ⟨j, hj, hd, _⟩ := this
     rw [hallm j (hp.lt j (by rw [hord2]; simp [hj]))] at hd
     cases hd
   have hfr := hi2.frame
   rw [hpend] at hfr
   exact ⟨D, [], ρ, w, tm, df, cs, .nil hall, hi2.down, hallm, Ren.le_refl _, hi2.world.fewer (fun x hx => .inl hx), hfr, .refl _ _, .refl _ _, hmD⟩
  ·cases h2
 | @cons D i L o ho hDi he hlin ih =>
  intro pre order' bb chks fr ps st ρ w tm df cs res hord h hmD hi
  obtain ⟨pre2, order2, chks2, fr2, st2, hord2, h2, hi2, htau⟩ := advance hp order' pre chks fr st hord h hi
  have hnd : ∀ x, x ∈ pre2 -> x ∈ order2 -> False := by
   intro x h1 h2
   have := hp.nodup
   rw [hord2, List.nodup_append] at this
   exact this.2.2 x h1 x h2 rfl
  by_cases him : i < m
  ·have hmem : i ∈ pre2 ++ order2 := by rw [<- hord2]; exact hp.all i him
   have hmD' : ∀ j, m <= j -> (D j || j == i) = false := by
    intro j hj
    have : j ≠ i := by omega
    simp [hmD j hj, this]
   rcases List.mem_append.1 hmem with hpre | hord3
   ·
    have hrc : recheck C ops.toList fr2 st2 bb chks2 = true := by
     rcases htau with rfl | ⟨e, r, rfl, hee⟩
     ·simp only [drawOps] at h2
      split at h2
      ·rename_i hrc; exact hrc
      ·cases h2
     ·rw [drawOps] at h2
      split at h2
      ·rename_i oe bi hoe hbe
       rw [nth_eq, Array.getElem?_toList] at hoe
       have : isEff oe.op = true := by rw [<- eff_of hoe]; exact hee
       simp only [this] at h2
       split at h2
       ·cases h2
       ·rename_i hrc; exact hrc
      ·cases h2
    obtain ⟨ρ', w', tm', hle, hst, hi3⟩ := quiet_step hT hF hE hp hi2 hrc ho hDi he hpre L k
    exact .of_steps hle (.refl _ _) hst (ih pre2 order2 bb chks2 fr2 ps st2 ρ' w' tm' df cs res hord2 h2 hmD' hi3)
   ·
    have hie : ∃ r, order2 = i :: r /\ isEffAt ops.toList i = true := by
     rcases htau with rfl | ⟨e, r, rfl, hee⟩
     ·simp at hord3
     ·rcases List.mem_cons.1 hord3 with rfl | hir
      ·exact ⟨r, rfl, hee⟩
      ·exfalso
       have hb := hp.later pre2 e r hord2 hee i hir
       have hDe := hi2.down.ready hp ho he hb
       exact hnd e (hi2.sub e hDe (hp.lt e (by rw [hord2]; simp))) (by simp)
    obtain ⟨r, rfl, hee⟩ := hie
    rw [drawOps] at h2
    have hnth : nth ops.toList i = some o := by rw [nth_eq, Array.getElem?_toList]; exact ho
    have hoe : isEff o.op = true := by rw [<- eff_of ho]; exact hee
    split at h2
    ·rename_i o' bi hno hnb
     rw [hnth] at hno
     cases hno
     simp only [hoe] at h2
     split at h2
     ·cases h2
     ·rename_i hrc
      have hreads := Inv.reads (hp := hp) hi2 ho he
      split at h2
      ·cases h2
      ·rename_i v fr3 ps3 st3 hs
       cases h2
       have hfr := stepOp_pan hs
       subst hfr
       obtain ⟨r2, hs2, hmask⟩ := stepOp_mask hreads hs
       cases r2 with
       | next _ _ _ => exact hmask.elim
       | pan v2 fr4 ps4 st4 =>
        obtain ⟨rfl, rfl, rfl⟩ := hmask
        obtain ⟨rfl, ρ1, w1, v', hle, hw1, hv, hst⟩ := stepOp_sound hT hF hE (hR _) hs2 hi2.world hi2.frame hi2.pan L k ho
        refine ⟨ρ1, w1, tm, df, cs, hle, hw1.fewer (fun x hx => .inl hx), ?_, .refl _ _, _, v', hv, hst⟩
        refine (hi2.frame.mono hle).sub (fr' := { fr3 with tm := eraseDsts ops.toList fr3.tm }) rfl fun t u hu => ?_
        obtain ⟨h1, h3⟩ := eraseDsts_get ops.toList fr3.tm t u hu
        show (maskT fr3.tm (pend ops D pre2)).get t = some u
        rw [get_maskT, if_neg ?_]
        ·exact h1
        ·intro hm
         rw [mem_pend] at hm
         obtain ⟨j, hj, hdj, hdd⟩ := hm
         unfold dstAt at hdd
         cases hoj : ops[j]? with
         | none => rw [hoj] at hdd; simp at hdd
         | some oj =>
          rw [hoj] at hdd
          simp at hdd
          have hne : isEff oj.op = false := by
           cases hq : isEff oj.op with
           | false => rfl
           | true => rw [hi2.effD j hj (by rw [eff_of hoj]; exact hq)] at hdj; cases hdj
          exact h3 oj (by have := Array.mem_of_getElem? hoj; simpa using this) hne hdd
      ·rename_i fr3 ps3 st3 hs
       obtain ⟨r2, hs2, hmask⟩ := stepOp_mask hreads hs
       cases r2 with
       | pan _ _ _ _ => exact hmask.elim
       | next fr4 ps4 st4 =>
        obtain ⟨rfl, rfl, hdf4, htm4⟩ := hmask
        obtain ⟨ρ1, w1, tm1, df1, cs1, hle, hw1, hf1, hps, hst⟩ := stepOp_sound hT hF hE (hR _) hs2 hi2.world hi2.frame hi2.pan L k ho
        have hord4 : order = (pre2 ++ [i]) ++ r := by rw [hord2]; simp
        have hni : i ∉ pre2 := fun hm => hnd i hm (by simp)
        refine .of_steps hle hps hst (ih (pre2 ++ [i]) r bi chks2 fr3 ps4 st4 ρ1 w1 tm1 df1 cs1 res hord4 h2 hmD' ?_)
        refine ⟨hi2.down.add ho he, fun j hj hjm => ?_, fun j hj hje => ?_, fun j hj hje => ?_, fun j hj => ?_, fun i' v' N ob hm hd => ?_, fun i1 v1 N ob1 i2 v2 ob2 h1 h2 d1 d2 => hi2.uniq _ _ _ _ _ _ _ h1 h2 (by simp only [Bool.or_eq_false_iff] at d1; exact d1.1) (by simp only [Bool.or_eq_false_iff] at d2; exact d2.1), fun c hc => ?_, hi2.dlt, hi2.objg, ?_, ?_, (hi2.pan.mono hle).step hps⟩
        ·simp only [Bool.or_eq_true, beq_iff_eq] at hj
         rcases hj with hj | rfl
         ·simp [hi2.sub j hj hjm]
         ·simp
        ·rcases List.mem_append.1 hj with hj | hj
         ·simp [hi2.effD j hj hje]
         ·simp at hj; simp [hj]
        ·rcases List.mem_append.1 hj with hj | hj
         ·exact hi2.cover j hj hje
         ·simp at hj; subst hj; rw [hee] at hje; cases hje
        ·refine ⟨i, by simp, ?_⟩
         unfold bitAt
         rw [hnb]
         exact hj
        ·simp only [Bool.or_eq_false_iff] at hd
         exact (hw1.gho N (.inr ⟨i', v', ob, hm, hd.1⟩)).2
        ·obtain ⟨h1, h3⟩ := hi2.chkn c hc
         exact ⟨h1, by simp [h3]⟩
        ·refine hw1.fewer ?_
         rintro x (hx | ⟨j, v, ob, hm, hd⟩)
         ·exact .inl hx
         ·simp only [Bool.or_eq_false_iff] at hd
          exact .inr ⟨j, v, ob, hm, hd.1⟩
        ·refine hf1.sub (fr' := maskF fr3 (pend ops (fun x => D x || x == i) (pre2 ++ [i]))) hdf4.symm fun t u hu => ?_
         have hu' : (maskT fr3.tm (pend ops (fun x => D x || x == i) (pre2 ++ [i]))).get t = some u := hu
         rw [get_maskT] at hu'
         split at hu'
         ·cases hu'
         ·rename_i hnp
          rw [htm4 t ?_]
          ·exact hu'
          ·intro hm
           refine hnp ?_
           rw [mem_pend] at hm ⊢
           obtain ⟨j, hj, hd, hdd⟩ := hm
           have hji : j ≠ i := fun e => hni (e ▸ hj)
           exact ⟨j, by simp [hj], by simp [hd, hji], hdd⟩
    ·cases h2
  ·
   have hallm : ∀ j, j < m -> D j = true := by
    intro j hj
    exact hi2.down.ready hp ho he ((hp.tail i o (by omega) ho).2.2 j hj)
   have hnil : order2 = [] := by
    rcases htau with h | ⟨e, r, rfl, hee⟩
    ·exact h
    ·exfalso
     have hem : e < m := hp.lt e (by rw [hord2]; simp)
     exact hnd e (hi2.sub e (hallm e hem) hem) (by simp)
   subst hnil
   simp only [drawOps] at h2
   split at h2
   ·cases h2
    have hpend : pend ops D pre2 = [] := by
     cases hq : pend ops D pre2 with
     | nil => rfl
     | cons t l =>
      have : t ∈ pend ops D pre2 := by rw [hq]; simp
      rw [mem_pend] at this
      obtain ⟨j, hj, hd, _⟩ := this
      rw [hallm j (hp.lt j (by rw [hord2]; simp [hj]))] at hd
      cases hd
    have hfr := hi2.frame
    rw [hpend] at hfr
    exact ⟨D, i :: L, ρ, w, tm, df, cs, .cons ho hDi he hlin, hi2.down, hallm, Ren.le_refl _, hi2.world.fewer (fun x hx => .inl hx), hfr, .refl _ _, .refl _ _, hmD⟩
   ·cases h2
end
open Go.RowKit (Below)
structure St.Alike (s t : St) : Prop where
 n : s.n = t.n
 get : ∀ b, s.get b = t.get b
 fm : ∀ f, s.fm.get f = t.fm.get f
theorem WRel.alike {w0 : World} {N0 : Nat} {G : Nat -> Prop} {ρ : Ren} {s t : St} {w : World} (h : WRel w0 N0 G ρ s w) (e : St.Alike s t) : WRel w0 N0 G ρ t w := by
 refine ⟨⟨fun b o hg => ?_, fun b c x f p hg => ?_, fun f ms hg => ?_⟩, h.below, h.big, fun b hb => ?_, fun b l hb => ?_, fun b l o hb hg => ?_, fun b b' l l' o o' h1 h2 h3 h4 h5 h6 => ?_⟩
 ·rw [<- e.n]; exact h.wf.lt b o (by rw [e.get]; exact hg)
 ·obtain ⟨h1, h2⟩ := h.wf.fam b c x f p (by rw [e.get]; exact hg)
  refine ⟨by rw [<- e.n]; exact h1, ?_⟩
  unfold memOk at h2 ⊢
  rw [<- e.fm]; exact h2
 ·rw [<- e.n]; exact h.wf.fml f ms (by rw [e.fm]; exact hg)
 ·rw [<- e.n]; exact h.gho b hb
 ·rw [<- e.n]; exact h.dom b l hb
 ·exact h.obj b l o hb (by rw [e.get]; exact hg)
 ·exact h.sep b b' l l' o o' h1 h2 h3 (by rw [e.get]; exact h4) (by rw [e.get]; exact h5) h6
theorem killIn_put {b lo hi b2 : Nat} {X : AObj} : ∀ (ms : List Nat) (hp hp' : Tr AObj), b2 ∉ ms -> (∀ x, hp'.get x = if x = b2 then some X else hp.get x) ->
  (killIn b lo hi ms hp').2 = (killIn b lo hi ms hp).2 /\ ∀ x, (killIn b lo hi ms hp').1.get x = if x = b2 then some X else (killIn b lo hi ms hp).1.get x := by
 intro ms
 induction ms with
 | nil => intro hp hp' _ h; exact ⟨rfl, h⟩
 | cons m ms ih =>
  intro hp hp' hm h
  have hm1 : m ≠ b2 := fun e => hm (by simp [e])
  have hm2 : b2 ∉ ms := fun e => hm (by simp [e])
  have hgm : hp'.get m = hp.get m := by rw [h, if_neg hm1]
  unfold killIn
  cases hmb : Nat.beq m b with
  | true =>
   obtain ⟨i1, i2⟩ := ih hp hp' hm2 h
   simp only
   exact ⟨by rw [i1], i2⟩
  | false =>
   simp only
   rw [hgm]
   split
   ·split
    ·refine ih _ _ hm2 fun x => ?_
     rw [Tr.get_set, Tr.get_set, h]
     by_cases hx : x = m
     ·subst hx; rw [if_pos rfl, if_pos rfl, if_neg hm1]
     ·rw [if_neg hx, if_neg hx]
    ·obtain ⟨i1, i2⟩ := ih hp hp' hm2 h
     exact ⟨by simp only; rw [i1], i2⟩
   ·obtain ⟨i1, i2⟩ := ih hp hp' hm2 h
    exact ⟨by simp only; rw [i1], i2⟩
theorem St.put_get (st : St) (b : Nat) (o : AObj) (x : Nat) : (st.put b o).get x = if x = b then some o else st.get x := Tr.get_set _ _ _ _
theorem kill_put {st : St} {f b lo hi b2 : Nat} {X : AObj} (hb : ∀ ms, st.fm.get f = some ms -> b2 ∉ ms) :
  St.Alike ((st.put b2 X).kill f b lo hi) ((st.kill f b lo hi).put b2 X) := by
 cases hfm : st.fm.get f with
 | none =>
  rw [St.kill_none hfm, St.kill_none (st := st.put b2 X) hfm]
  exact ⟨rfl, fun _ => rfl, fun _ => rfl⟩
 | some ms =>
  rw [St.kill_some hfm, St.kill_some (st := st.put b2 X) hfm]
  obtain ⟨h1, h2⟩ := killIn_put (b := b) (lo := lo) (hi := hi) (b2 := b2) (X := X) ms st.hp (st.put b2 X).hp (hb ms hfm) (fun x => Tr.get_set _ _ _ _)
  refine ⟨rfl, fun x => ?_, fun g => ?_⟩
  ·show (killIn b lo hi ms (st.put b2 X).hp).1.get x = ((killIn b lo hi ms st.hp).1.set b2 X).get x
   rw [Tr.get_set, h2]
  ·show (st.fm.set f _).get g = (st.fm.set f _).get g
   rw [Tr.get_set, Tr.get_set, h1]
theorem St.Alike.put {s t : St} (h : St.Alike s t) (b : Nat) (o : AObj) : St.Alike (s.put b o) (t.put b o) :=
 ⟨h.n, fun x => by rw [St.put_get, St.put_get, h.get], h.fm⟩
theorem St.Alike.trans {s t u : St} (h : St.Alike s t) (k : St.Alike t u) : St.Alike s u := ⟨h.n.trans k.n, fun x => (h.get x).trans (k.get x), fun x => (h.fm x).trans (k.fm x)⟩
theorem killIn_alike {b lo hi : Nat} : ∀ (ms : List Nat) (hp hp' : Tr AObj), (∀ x, hp'.get x = hp.get x) ->
  (killIn b lo hi ms hp').2 = (killIn b lo hi ms hp).2 /\ ∀ x, (killIn b lo hi ms hp').1.get x = (killIn b lo hi ms hp).1.get x := by
 intro ms
 induction ms with
 | nil => intro hp hp' h; exact ⟨rfl, h⟩
 | cons m ms ih =>
  intro hp hp' h
  unfold killIn
  cases hmb : Nat.beq m b with
  | true =>
   obtain ⟨i1, i2⟩ := ih hp hp' h
   simp only
   exact ⟨by rw [i1], i2⟩
  | false =>
   simp only
   rw [h m]
   split
   ·split
    ·refine ih _ _ fun x => ?_
     rw [Tr.get_set, Tr.get_set, h]
    ·obtain ⟨i1, i2⟩ := ih hp hp' h
     exact ⟨by simp only; rw [i1], i2⟩
   ·obtain ⟨i1, i2⟩ := ih hp hp' h
    exact ⟨by simp only; rw [i1], i2⟩
theorem St.Alike.kill {s t : St} (h : St.Alike s t) (f b lo hi : Nat) : St.Alike (s.kill f b lo hi) (t.kill f b lo hi) := by
 cases hfm : t.fm.get f with
 | none => rw [St.kill_none hfm, St.kill_none (by rw [h.fm]; exact hfm)]; exact h
 | some ms =>
  rw [St.kill_some hfm, St.kill_some (st := s) (by rw [h.fm]; exact hfm)]
  obtain ⟨h1, h2⟩ := killIn_alike (b := b) (lo := lo) (hi := hi) ms t.hp s.hp h.get
  refine ⟨h.n, h2, fun g => ?_⟩
  show (s.fm.set f _).get g = (t.fm.set f _).get g
  rw [Tr.get_set, Tr.get_set, h1, h.fm]
theorem apart_spec {st : St} {b1 b2 : Nat} (h : apart st b1 b2 = true) : ∃ c1 e1 f1 p1 c2 e2 f2 p2, st.get b1 = some (.cells c1 e1 f1 p1) /\ st.get b2 = some (.cells c2 e2 f2 p2) /\ b1 ≠ b2 /\ f1 ≠ f2 /\ st.fm.get f2 = none /\ ∀ ms, st.fm.get f1 = some ms -> b2 ∉ ms := by
 unfold apart at h
 split at h
 ·rename_i c1 e1 f1 p1 c2 e2 f2 p2 h1 h2
  simp only [Bool.and_eq_true, Bool.not_eq_true'] at h
  obtain ⟨⟨⟨hb, hf⟩, hn⟩, hm⟩ := h
  refine ⟨c1, e1, f1, p1, c2, e2, f2, p2, h1, h2, Nat.ne_of_beq_eq_false hb, Nat.ne_of_beq_eq_false hf, ?_, fun ms hms hmem => ?_⟩
  ·split at hn
   ·assumption
   ·cases hn
  ·rw [hms] at hm
   simp only [Bool.not_eq_true', List.any_eq_false] at hm
   exact hm b2 hmem (Nat.beq_refl _)
 ·cases h
theorem writeCells_comm {st s1 s2 s12 s21 : St} {b1 b2 o1 o2 : Nat} {v1 v2 : List Value} (ha : apart st b1 b2 = true) (h1 : writeCells st b1 o1 v1 = some s1) (h2 : writeCells st b2 o2 v2 = some s2)
  (h12 : writeCells s1 b2 o2 v2 = some s12) (h21 : writeCells s2 b1 o1 v1 = some s21) : St.Alike s21 s12 := by
 obtain ⟨c1, e1, f1, p1, c2, e2, f2, p2, g1, g2, hb, hf, hn2, hm1⟩ := apart_spec ha
 obtain ⟨c1', e1', f1', p1', g1', _, _, rfl⟩ := writeCells_eq h1
 rw [g1] at g1'; cases g1'
 obtain ⟨c2', e2', f2', p2', g2', _, _, rfl⟩ := writeCells_eq h2
 rw [g2] at g2'; cases g2'
 have k2 : (st.put b2 (.cells (listSet c2 o2 v2) e2 f2 p2)).kill f2 b2 (p2 + o2) (p2 + o2 + v2.length) = st.put b2 (.cells (listSet c2 o2 v2) e2 f2 p2) := St.kill_none hn2
 rw [k2] at h21
 obtain ⟨c1', e1', f1', p1', g1', _, _, rfl⟩ := writeCells_eq h21
 rw [St.put_get, if_neg hb, g1] at g1'; cases g1'
 obtain ⟨c2', e2', f2', p2', g2', _, _, rfl⟩ := writeCells_eq h12
 have hg2 : ((st.put b1 (.cells (listSet c1 o1 v1) e1 f1 p1)).kill f1 b1 (p1 + o1) (p1 + o1 + v1.length)).get b2 = some (.cells c2 e2 f2 p2) := by
  have := (kill_put (st := st.put b1 (.cells (listSet c1 o1 v1) e1 f1 p1)) (f := f1) (b := b1) (lo := p1 + o1) (hi := p1 + o1 + v1.length) (b2 := b2) (X := .cells c2 e2 f2 p2) hm1).get b2
  rw [St.put_get, if_pos rfl] at this
  rw [<- this]
  have hal : St.Alike (st.put b1 (.cells (listSet c1 o1 v1) e1 f1 p1)) ((st.put b1 (.cells (listSet c1 o1 v1) e1 f1 p1)).put b2 (.cells c2 e2 f2 p2)) := by
   refine ⟨rfl, fun x => ?_, fun _ => rfl⟩
   rw [St.put_get _ b2, St.put_get]
   by_cases hx : x = b2
   ·subst hx; rw [if_pos rfl, if_neg (fun e => hb e.symm), g2]
   ·rw [if_neg hx]
  exact (hal.kill _ _ _ _).get b2
 rw [hg2] at g2'; cases g2'
 have hn2' : ((st.put b1 (.cells (listSet c1 o1 v1) e1 f1 p1)).kill f1 b1 (p1 + o1) (p1 + o1 + v1.length)).fm.get f2 = none := by
  unfold St.kill
  split
  ·exact hn2
  ·show (st.fm.set f1 _).get f2 = none
   rw [Tr.get_set, if_neg (fun e => hf e.symm)]
   exact hn2
 rw [St.kill_none (st := St.put _ _ _) hn2']
 have hal : St.Alike ((st.put b2 (.cells (listSet c2 o2 v2) e2 f2 p2)).put b1 (.cells (listSet c1 o1 v1) e1 f1 p1)) ((st.put b1 (.cells (listSet c1 o1 v1) e1 f1 p1)).put b2 (.cells (listSet c2 o2 v2) e2 f2 p2)) := by
  refine ⟨rfl, fun x => ?_, fun _ => rfl⟩
  rw [St.put_get, St.put_get, St.put_get, St.put_get]
  by_cases hx : x = b1
  ·subst hx; rw [if_pos rfl, if_neg hb, if_pos rfl]
  ·rw [if_neg hx]
   by_cases hx2 : x = b2
   ·rw [if_pos hx2, if_pos hx2]
   ·rw [if_neg hx2, if_neg hx2, if_neg hx]
 exact (hal.kill _ _ _ _).trans (kill_put hm1)
section
variable {C : Ctx} {w0 : World} {N0 : Nat} {G : Nat -> Prop} {fc : FC} {b : FB} {rc : Rec} {ops : Array Oper} {bs : List Nat} {m : Nat} {order : List Nat}
theorem one_val (hT : TOk C) (hF : FOk C) (hE : ExtOk C) {ρ : Ren} {st st' : St} {w : World} {fr : Fr} {tm : Array Value} {df : List Deferred} {cs : List Frame} {k : List Item} {i : Nat} {rest : List Nat} {o : Oper} {v : Value} (ho : ops[i]? = some o) (hg : o.guard = none)
  (h : aop C (evOp fr) o st = some (.val v st')) (hw : WRel w0 N0 G ρ st w) (ht : TRel ρ fc.nt fr.tm tm) :
  ∃ ρ' v' w', ρ.le ρ' /\ WRel w0 N0 G ρ' st' w' /\ VRel ρ' v v' /\ Steps C.P (lone (mkF b tm df (.inRegion ops (i :: rest) :: k)) cs w) (lone (mkF b (putT tm o.dst v') df (.inRegion ops rest :: k)) cs w') := by
 obtain ⟨ρ', v', w', hrun, kept⟩ := aop_sim hT hF hE hw (evOp_rel ht) h
 refine ⟨ρ', v', w', kept.le, kept.world, kept.value, .one (st_value ho ?_ (.inr (not_defer_of h (by intro d e; cases e))) hrun)⟩
 unfold Region.wanted
 rw [hg]
theorem lin3 (hp : PlanFacts ops bs m order) (hsz : ops.size = m + 3) {D : Nat -> Bool} {L : List Nat} (hlin : Lin ops D L) (hd : Down ops D) (h1 : ∀ i, i < m -> D i = true) (h2 : ∀ i, m <= i -> D i = false) (hb : bitAt bs (m + 1) m = true) :
  L = [m, m + 1, m + 2] ∨ L = [m, m + 2, m + 1] ∨ L = [m + 2, m, m + 1] := by
 have step : ∀ {D : Nat -> Bool} {L : List Nat}, Lin ops D L -> Down ops D -> (L = [] /\ ∀ i, i < ops.size -> D i = true) ∨
   ∃ i L', L = i :: L' /\ i < ops.size /\ D i = false /\ (i = m + 1 -> D m = true) /\ Lin ops (fun x => D x || x == i) L' /\ Down ops (fun x => D x || x == i) := by
  intro D L hl hd
  cases hl with
  | nil h => exact .inl ⟨rfl, h⟩
  | @cons _ i L' o ho hn he t =>
   refine .inr ⟨i, L', rfl, ?_, hn, ?_, t, hd.add ho he⟩
   ·rcases Nat.lt_or_ge i ops.size with h | h
    ·exact h
    ·rw [Array.getElem?_eq_none h] at ho; cases ho
   ·rintro rfl
    exact hd.ready hp ho he hb
 have hlow : ∀ {i : Nat}, D i = false -> m <= i := fun {i} h => by
  rcases Nat.lt_or_ge i m with hh | hh
  ·rw [h1 i hh] at h; cases h
  ·exact hh
 rcases step hlin hd with ⟨_, hall⟩ | ⟨i, L1, rfl, hi, hDi, hi1, l1, d1⟩
 ·have := hall m (by omega); rw [h2 m (Nat.le_refl _)] at this; cases this
 rcases step l1 d1 with ⟨_, hall⟩ | ⟨j, L2, rfl, hj, hDj, hj1, l2, d2⟩
 ·exfalso
  have a0 := hall m (by omega); have a1 := hall (m + 1) (by omega)
  simp only [h2 m (Nat.le_refl _), h2 (m + 1) (by omega), Bool.false_or, beq_iff_eq] at a0 a1
  omega
 rcases step l2 d2 with ⟨_, hall⟩ | ⟨l, L3, rfl, hl, hDl, hl1, l3, d3⟩
 ·exfalso
  have a0 := hall m (by omega); have a1 := hall (m + 1) (by omega); have a2 := hall (m + 2) (by omega)
  simp only [h2 m (Nat.le_refl _), h2 (m + 1) (by omega), h2 (m + 2) (by omega), Bool.false_or, Bool.or_eq_true, beq_iff_eq] at a0 a1 a2
  omega
 have bi := hlow hDi
 simp only [Bool.or_eq_false_iff, beq_eq_false_iff_ne] at hDj hDl
 have bj := hlow hDj.1
 have bl := hlow hDl.1.1
 simp only [h2 m (Nat.le_refl _), Bool.false_or, Bool.or_eq_true, beq_iff_eq] at hj1 hl1
 have hi1' : i ≠ m + 1 := fun e => by have := hi1 e; rw [h2 m (Nat.le_refl _)] at this; cases this
 rcases step l3 d3 with ⟨rfl, _⟩ | ⟨q, L4, rfl, hq, hDq, _, _, _⟩
 ·have hc : (i = m /\ j = m + 1 /\ l = m + 2) ∨ (i = m /\ j = m + 2 /\ l = m + 1) ∨ (i = m + 2 /\ j = m /\ l = m + 1) := by
   have n1 := hDj.2; have n2 := hDl.2; have n3 := hDl.1.2
   by_cases e1 : j = m + 1
   ·have := hj1 e1; omega
   ·by_cases e2 : l = m + 1
    ·omega
    ·omega
  rcases hc with ⟨rfl, rfl, rfl⟩ | ⟨rfl, rfl, rfl⟩ | ⟨rfl, rfl, rfl⟩
  ·exact .inl rfl
  ·exact .inr (.inl rfl)
  ·exact .inr (.inr rfl)
 ·exfalso
  simp only [Bool.or_eq_false_iff, beq_eq_false_iff_ne] at hDq
  have bq := hlow hDq.1.1.1
  have n1 := hDj.2; have n2 := hDl.2; have n3 := hDl.1.2
  have n4 := hDq.2; have n5 := hDq.1.2; have n6 := hDq.1.1.2
  omega
theorem TRel.less {ρ : Ren} {nt : Nat} {t t' : Tr Value} {tm : Array Value} (h : TRel ρ nt t tm) (hl : ∀ i v, t'.get i = some v -> t.get i = some v) : TRel ρ nt t' tm := ⟨h.1, fun i v hv => h.2 i v (hl i v hv)⟩
theorem aStore_eq {t : TypeId} {bl o : Nat} {u v : Value} {st st' : St} (h : aStore C t (.pointer (some ⟨bl, o, none⟩)) u st = some (.val v st')) : writeCells st bl o (cellsOf u) = some st' := by
 unfold aStore at h
 split at h
 ·rename_i ti b' o' _ he
  cases he
  split at h
  ·split at h
   ·rename_i s hs
    obtain ⟨_, rfl⟩ := val_eq h
    exact hs
   ·cases h
  ·cases h
 ·cases h
theorem tail3_sound (hT : TOk C) (hF : FOk C) (hE : ExtOk C) (hp : PlanFacts ops bs m order) {a s1 s2 : Oper} (hops : ops.toList.drop m = [a, s1, s2]) {fr fr' : Fr} {ps ps' : PanS} {st st' : St} {x : Ex} (h : tail3 C fc a s1 s2 fr ps st = some (x, fr', ps', st'))
  {D : Nat -> Bool} {L : List Nat} (hlin : Lin ops D L) (hd : Down ops D) (h1 : ∀ i, i < m -> D i = true) (h2 : ∀ i, m <= i -> D i = false) (hb : bitAt bs (m + 1) m = true)
  {ρ : Ren} {w : World} {tm : Array Value} {df : List Deferred} (cs : List Frame) (k : List Item) (hw : WRel w0 N0 G ρ st w) (hf : FRel ρ fc fr b tm df) :
  x = .norm /\ ps' = ps /\ ∃ ρ' w' tm', ρ.le ρ' /\ WRel w0 N0 G ρ' st' w' /\ FRel ρ' fc fr' b tm' df /\ Steps C.P (lone (mkF b tm df (.inRegion ops L :: k)) cs w) (lone (mkF b tm' df (.inRegion ops [] :: k)) cs w') := by
 have hsz : ops.size = m + 3 := by
  have := congrArg List.length hops
  simp at this
  omega
 have hat : ∀ j o, [a, s1, s2][j]? = some o -> ops[m + j]? = some o := by
  intro j o h
  rw [<- hops, List.getElem?_drop, Array.getElem?_toList] at h
  exact h
 have oa : ops[m]? = some a := hat 0 a rfl
 have os1 : ops[m + 1]? = some s1 := hat 1 s1 rfl
 have os2 : ops[m + 2]? = some s2 := hat 2 s2 rfl
 have ga := (hp.tail m a (Nat.le_refl _) oa).2.1
 have gs1 := (hp.tail (m + 1) s1 (by omega) os1).2.1
 have gs2 := (hp.tail (m + 2) s2 (by omega) os2).2.1
 unfold tail3 at h
 split at h
 ·rename_i d t1 x1 y1 t2 x2 y2 hda hd1 hd2 hop1 hop2 hk
  rw [Bool.or_eq_false_iff] at hk
  split at h
  ·rename_i v sta ha
   split at h
   ·rename_i fra hn hset0
    have hset : setDst fc.nt fr (some d) v = some fra := hset0
    have hsta := aop_same hk.1 hk.2 ha (Nat.eq_of_beq_eq_true hn)
    subst hsta
    split at h
    ·rename_i b1 o1 u1 b2 o2 u2 ex1 ey1 ex2 ey2
     split at h
     ·cases h
     ·rename_i hap
      split at h
      ·rename_i q1 st1 q2 st2 hst1 hst2
       split at h
       ·rename_i v2 st2' ha2
        split at h
        ·cases h
        ·rename_i hv2
         rw [Bool.and_eq_true] at hv2
         have := veq_eq _ _ hv2.1
         subst this
         have hst2e := aop_same hk.1 hk.2 ha2 (Nat.eq_of_beq_eq_true hv2.2)
         subst hst2e
         split at h
         ·rename_i q3 st12 q4 st21 hst12 hst21
          simp only [Option.some.injEq, Prod.mk.injEq] at h
          obtain ⟨rfl, rfl, rfl, rfl⟩ := h
          have halike := writeCells_comm hap (aStore_eq hst1) (aStore_eq hst2) (aStore_eq hst12) (aStore_eq hst21)
          refine ⟨rfl, rfl, ?_⟩
          have A1 : ∀ s, aop C (evOp fra) s1 s = aStore C t1 (.pointer (some ⟨b1, o1, none⟩)) u1 s := by
           intro s; unfold aop; rw [hop1]; simp only; rw [ex1, ey1]
          have A2 : ∀ s, aop C (evOp ⟨fr.tm.put d none, fr.df⟩) s2 s = aStore C t2 (.pointer (some ⟨b2, o2, none⟩)) u2 s := by
           intro s; unfold aop; rw [hop2]; simp only; rw [ex2, ey2]
          have hfra : fra = ⟨fr.tm.set d v, fr.df⟩ /\ d < fc.nt := by
           unfold setDst at hset
           simp only at hset
           split at hset
           ·rename_i hlt; cases hset; exact ⟨rfl, Nat.blt_eq.mp hlt⟩
           ·cases hset
          have less0 : ∀ i u, (fr.tm.put d none).get i = some u -> fr.tm.get i = some u := by
           intro i u hu
           rw [Tr.get_put] at hu
           split at hu
           ·cases hu
           ·exact hu
          have lessa : ∀ i u, (fr.tm.put d none).get i = some u -> fra.tm.get i = some u := by
           intro i u hu
           rw [hfra.1]
           show (fr.tm.set d v).get i = some u
           rw [Tr.get_put] at hu
           rw [Tr.get_set]
           split at hu
           ·cases hu
           ·rename_i hne; rw [if_neg hne]; exact hu
          have fin : ∀ {ρ' : Ren} {tm' : Array Value}, ρ.le ρ' -> TRel ρ' fc.nt fra.tm tm' -> FRel ρ' fc fra b tm' df := by
           intro ρ' tm' hle ht
           have hf' := hf.mono hle
           exact ⟨hf'.fn, hf'.round, hf'.kind, ht, by rw [hfra.1]; exact hf'.df⟩
          rcases lin3 hp hsz hlin hd h1 h2 hb with rfl | rfl | rfl
          ·obtain ⟨ρ1, v1', w1, le1, hw1, hv1, s1'⟩ := one_val (fc := fc) (b := b) (df := df) (cs := cs) (k := k) (rest := [m + 1, m + 2]) hT hF hE oa ga ha hw hf.tm
           rw [hda] at s1'
           have ht1 := (setDst_rel (hf.tm.mono le1) hv1 hset).1
           obtain ⟨ρ2, v2', w2, le2, hw2, hv2', s2'⟩ := one_val (fc := fc) (b := b) (df := df) (cs := cs) (k := k) (rest := [m + 2]) hT hF hE os1 gs1 ((A1 _).trans hst1) hw1 ht1
           rw [hd1] at s2'
           have ht2 := ht1.mono le2
           obtain ⟨ρ3, v3', w3, le3, hw3, hv3', s3'⟩ := one_val (fc := fc) (b := b) (df := df) (cs := cs) (k := k) (rest := []) hT hF hE os2 gs2 ((A2 _).trans hst12) hw2 (ht2.less lessa)
           rw [hd2] at s3'
           exact ⟨ρ3, w3, _, (le1.trans le2).trans le3, hw3, fin ((le1.trans le2).trans le3) (ht2.mono le3), (s1'.trans s2').trans s3'⟩
          ·obtain ⟨ρ1, v1', w1, le1, hw1, hv1, s1'⟩ := one_val (fc := fc) (b := b) (df := df) (cs := cs) (k := k) (rest := [m + 2, m + 1]) hT hF hE oa ga ha hw hf.tm
           rw [hda] at s1'
           have ht1 := (setDst_rel (hf.tm.mono le1) hv1 hset).1
           obtain ⟨ρ2, v2', w2, le2, hw2, hv2', s2'⟩ := one_val (fc := fc) (b := b) (df := df) (cs := cs) (k := k) (rest := [m + 1]) hT hF hE os2 gs2 ((A2 _).trans hst2) hw1 (ht1.less lessa)
           rw [hd2] at s2'
           have ht2 := ht1.mono le2
           obtain ⟨ρ3, v3', w3, le3, hw3, hv3', s3'⟩ := one_val (fc := fc) (b := b) (df := df) (cs := cs) (k := k) (rest := []) hT hF hE os1 gs1 ((A1 _).trans hst21) hw2 ht2
           rw [hd1] at s3'
           exact ⟨ρ3, w3, _, (le1.trans le2).trans le3, hw3.alike halike, fin ((le1.trans le2).trans le3) (ht2.mono le3), (s1'.trans s2').trans s3'⟩
          ·obtain ⟨ρ1, v1', w1, le1, hw1, hv1, s1'⟩ := one_val (fc := fc) (b := b) (df := df) (cs := cs) (k := k) (rest := [m, m + 1]) hT hF hE os2 gs2 ((A2 _).trans hst2) hw (hf.tm.less less0)
           rw [hd2] at s1'
           have ht1 := hf.tm.mono le1
           obtain ⟨ρ2, v2', w2, le2, hw2, hv2', s2'⟩ := one_val (fc := fc) (b := b) (df := df) (cs := cs) (k := k) (rest := [m + 1]) hT hF hE oa ga ha2 hw1 ht1
           rw [hda] at s2'
           have ht2 := (setDst_rel (ht1.mono le2) hv2' hset).1
           obtain ⟨ρ3, v3', w3, le3, hw3, hv3', s3'⟩ := one_val (fc := fc) (b := b) (df := df) (cs := cs) (k := k) (rest := []) hT hF hE os1 gs1 ((A1 _).trans hst21) hw2 ht2
           rw [hd1] at s3'
           exact ⟨ρ3, w3, _, (le1.trans le2).trans le3, hw3.alike halike, fin ((le1.trans le2).trans le3) (ht2.mono le3), (s1'.trans s2').trans s3'⟩
         ·cases h
       ·cases h
      ·cases h
    ·cases h
   ·cases h
  ·cases h
 ·cases h
end
end Go.AM
