/- Each operation of the evaluator is the model's, up to a renaming of blocks. -/
import Derived.Test.YthfehkcfhiilfaaGreatDoorKAmA
import Derived.Laws.Entries
import Derived.WideLaws
import Derived.Laws.Strings
import Derived.Laws.StructEq
import Derived.Laws.World
import Derived.IntWalk
namespace Go.AM set_option linter.unusedSimpArgs false set_option linter.unusedVariables false
open Go.RowKit (Below)
theorem flat_rel {v : Value} (h : flat v = true) (ρ : Ren) : VRel ρ v v := by
 unfold flat at h
 split at h <;> first | cases h | skip
 ·exact .bool _
 ·exact .int _ _
 ·exact .string _
 ·exact .ptrNil
 ·exact .sliceNil
 ·exact .mapNil
 ·exact .nilFunc
 ·exact .nilIface
theorem flats_rel {l : List Value} (h : l.all flat = true) (ρ : Ren) : VsRel ρ l l := by
 induction l with
 | nil => exact .nil
 | cons v l ih => simp only [List.all_cons, Bool.and_eq_true] at h; exact .cons (flat_rel h.1 ρ) (ih h.2)
def isAggD : TypeDesc -> Bool
 | .struct _ => true
 | .array _ _ => true
 | _ => false
def zval (ti : TI) (z : Value) : Prop := (ti.agg = true /\ z = .agg ti.zero.toArray) ∨ (ti.agg = false /\ ti.zero = [z] /\ flat z = true)
theorem zval.cells {ti : TI} {z : Value} (h : zval ti z) : z.cells.toList = ti.zero := by
 rcases h with ⟨_, rfl⟩ | ⟨_, e, hf⟩
 ·rfl
 ·rw [e]; cases z <;> first | rfl | (simp [flat] at hf; done)
theorem zval.mk {ti : TI} {z : Value} (h : zval ti z) : mkV ti.agg ti.zero = some z := by
 rcases h with ⟨e, rfl⟩ | ⟨e, e2, _⟩
 ·rw [e]; rfl
 ·rw [e, e2]; rfl
structure TOk (C : Ctx) : Prop where
 und : ∀ t ti, C.tt.get t = some ti -> C.P.underlying t = some ti.desc
 info : ∀ t ti, C.tt.get t = some ti -> ∃ i z, C.P.info? t = some i /\ i.size = ti.size /\ i.bytes = ti.bytes /\ i.zero = some z /\ zval ti z
 agg : ∀ t ti, C.tt.get t = some ti -> ti.agg = isAggD ti.desc
 zlen : ∀ t ti, C.tt.get t = some ti -> ti.zero.length = ti.size
 zflat : ∀ t ti, C.tt.get t = some ti -> ti.zero.all flat = true
section
variable {C : Ctx} {t : TypeId} {ti : TI}
theorem run_und (hT : TOk C) (ht : C.tt.get t = some ti) (w : World) : (underlying t).run C.P w = .ok ti.desc w := run_underlying (hT.und _ _ ht) w
theorem run_info (hT : TOk C) (ht : C.tt.get t = some ti) (w : World) : ∃ i z, (typeInfo t).run C.P w = .ok i w /\ i.size = ti.size /\ i.bytes = ti.bytes /\ i.zero = some z /\ zval ti z := by
 obtain ⟨i, z, h, r⟩ := hT.info _ _ ht
 exact ⟨i, z, by simp [typeInfo, h], r⟩
theorem run_size (hT : TOk C) (ht : C.tt.get t = some ti) (w : World) : (sizeOf t).run C.P w = .ok ti.size w := by
 obtain ⟨i, z, h, e, _⟩ := hT.info _ _ ht
 simp [sizeOf, typeInfo, h, e]
theorem run_bytes (hT : TOk C) (ht : C.tt.get t = some ti) (w : World) : ∃ i, (typeInfo t).run C.P w = .ok i w /\ i.bytes = ti.bytes := by
 obtain ⟨i, z, h, e, e2, _⟩ := run_info hT ht w
 exact ⟨i, h, e2⟩
theorem run_agg (hT : TOk C) (ht : C.tt.get t = some ti) (w : World) : (isAgg t).run C.P w = .ok ti.agg w := by
 unfold isAgg
 rw [Sem.run_bind, run_und hT ht w, Result.andThen_ok, hT.agg _ _ ht]
 cases ti.desc <;> rfl
theorem run_zero (hT : TOk C) (ht : C.tt.get t = some ti) (w : World) : ∃ z, (zeroValue t).run C.P w = .ok z w /\ zval ti z := by
 obtain ⟨i, z, h, e, e2, e3, e4⟩ := hT.info _ _ ht
 exact ⟨z, by simp [zeroValue, typeInfo, h, e3], e4⟩
end
structure Kept (w0 : World) (N0 : Nat) (G : Nat -> Prop) (ρ : Ren) (st' : St) (v : Value) (v' : Value) (w' : World) (ρ' : Ren) : Prop where
 le : ρ.le ρ'
 world : WRel w0 N0 G ρ' st' w'
 value : VRel ρ' v v'
def SimV (w0 : World) (N0 : Nat) (G : Nat -> Prop) (ρ : Ren) (st' : St) (v : Value) (r : Result Value) : Prop :=
 ∃ ρ' v' w', r = .ok v' w' /\ Kept w0 N0 G ρ st' v v' w' ρ'
section
variable {C : Ctx} {w0 : World} {N0 : Nat} {G : Nat -> Prop} {ρ : Ren} {st st' : St} {w : World} {v : Value}
theorem SimV.same (h : WRel w0 N0 G ρ st w) {v' : Value} (hv : VRel ρ v v') : SimV w0 N0 G ρ st v (.ok v' w) := ⟨ρ, v', w, rfl, Ren.le_refl _, h, hv⟩
theorem val_eq {st st' : St} {v v1 : Value} (h : val v st = some (.val v1 st')) : v1 = v /\ st' = st := by
 unfold val at h
 cases h
 exact ⟨rfl, rfl⟩
theorem WRel.row (h : WRel w0 N0 G ρ st w) {c : List Value} {c' : Array Value} {es : Nat} (elem : TypeId) (hc : VsRel ρ c c'.toList) :
  WRel w0 N0 G (ρ.add st.n ⟨w.heap.size, 0, es, c'.size⟩) (st.new (.cells c es st.n 0)) { w with heap := w.heap.push (.cells c' elem) } := by
 refine h.new rfl rfl ⟨c', elem, 0, 0, rfl, rfl, rfl, ?_, fun i v hv => ?_, fun i _ hh => by omega⟩
 ·have := hc.length
  simp at this
  simp; omega
 ·obtain ⟨v', e, r⟩ := hc.get hv
  refine ⟨v', ?_, r.mono (Ren.le_add h.none_at)⟩
  simpa using e
theorem run_newRow {P : Program} {w : World} (elem : TypeId) (c : Array Value) : (Go.newRow elem c).run P w = .ok ⟨w.heap.size, 0, none⟩ { w with heap := w.heap.push (.cells c elem) } := by
 simp [Go.newRow, newObj, Sem.run]
theorem alloc_sim (hT : TOk C) (h : WRel w0 N0 G ρ st w) {t : TypeId} (ha : aAlloc C t st = some (.val v st')) : SimV w0 N0 G ρ st' v ((Instr.alloc t true (.tuple #[])).run C.P w) := by
 unfold aAlloc at ha
 split at ha
 ·rename_i ti ht
  obtain ⟨rfl, rfl⟩ := val_eq ha
  obtain ⟨z, hz, hzv⟩ := run_zero hT ht w
  have hcells : VsRel ρ ti.zero z.cells.toList := by rw [hzv.cells]; exact flats_rel (hT.zflat _ _ ht) ρ
  refine ⟨_, .pointer (some ⟨w.heap.size, 0, none⟩), _, ?_, Ren.le_add h.none_at, h.row t hcells, ?_⟩
  ·simp only [Instr.alloc, Sem.run_bind, hz, Result.andThen_ok, newVar, run_newRow, Sem.run_pure]
  ·exact .ptr (l := ⟨w.heap.size, 0, ti.size, z.cells.size⟩) (Ren.add_same _ _ _)
 ·cases ha
theorem box_sim (h : WRel w0 N0 G ρ st w) {t : TypeId} {x x' : Value} (hx : VRel ρ x x') (ha : aBox x st = some (.val v st')) : SimV w0 N0 G ρ st' v ((Instr.box t x').run C.P w) := by
 unfold aBox at ha
 split at ha
 ·obtain ⟨rfl, rfl⟩ := val_eq ha
  refine ⟨_, .pointer (some ⟨w.heap.size, 0, none⟩), _, ?_, Ren.le_add h.none_at, h.row t hx.cells, ?_⟩
  ·simp only [Instr.box, Sem.run_bind, Result.andThen_ok, newVar, run_newRow, Sem.run_pure]
  ·exact .ptr (l := ⟨w.heap.size, 0, _, x'.cells.size⟩) (Ren.add_same _ _ _)
 ·cases ha
theorem ptr_inv {b o : Nat} {x' : Value} (h : VRel ρ (.pointer (some ⟨b, o, none⟩)) x') : ∃ l, ρ b = some l /\ x' = .pointer (some ⟨l.b, l.d + o, none⟩) := by
 cases h with
 | ptr h => exact ⟨_, h, rfl⟩
theorem WRel.cell1 (h : WRel w0 N0 G ρ st w) {b o : Nat} {x : Value} {l : Loc} (hb : ρ b = some l) (hr : readCells st b o 1 = some [x]) :
  ∃ x', w.cell? ⟨l.b, l.d + o, none⟩ = some x' /\ VRel ρ x x' := by
 obtain ⟨c0, es, f, p, hg, hle, hc⟩ := readCells_eq hr
 obtain ⟨c', elem, lo, hi, e, k⟩ := h.obj _ _ _ hb hg
 have hx : c0[o]? = some x := by
  have : ((c0.drop o).take 1)[0]? = some x := by rw [<- hc]; rfl
  simpa using this
 obtain ⟨x', e1, r⟩ := k.cell _ _ hx
 exact ⟨x', by rw [cell_of e]; exact e1, r⟩
theorem load_sim (hT : TOk C) (h : WRel w0 N0 G ρ st w) {t : TypeId} {x x' : Value} (hx : VRel ρ x x') (ha : aLoad C t x st = some (.val v st')) :
  ∃ v', (Instr.loadAt t x').run C.P w = .ok v' w /\ VRel ρ v v' /\ st' = st := by
 unfold aLoad at ha
 split at ha
 ·rename_i ti b o ht
  obtain ⟨l, hb, rfl⟩ := ptr_inv hx
  split at ha
  ·rename_i c hs hr
   split at ha
   ·rename_i u hm
    obtain ⟨rfl, rfl⟩ := val_eq ha
    cases hag : ti.agg with
    | true =>
     obtain ⟨c', hc1, hc2⟩ := h.read hb hr C.P
     refine ⟨.agg c', ?_, ?_, rfl⟩
     ·simp only [Instr.loadAt, Instr.sureAddr, loadVar, Sem.run_bind, Sem.run_pure, Result.andThen_ok, run_agg hT ht, hag, if_true, run_size hT ht, hc1]
     ·rw [hag] at hm
      simp [mkV] at hm
      subst hm
      exact .agg hc2
    | false =>
     rw [hag] at hm hs
     have h1 : ti.size = 1 := by simpa using hs
     rw [h1] at hr
     have hl := readCells_length hr
     match c, hl, hm with
     | [y], _, hm =>
      simp [mkV] at hm
      subst hm
      obtain ⟨x', e, r⟩ := WRel.cell1 h hb hr
      refine ⟨x', ?_, r, rfl⟩
      simp only [Instr.loadAt, Instr.sureAddr, loadVar, Sem.run_bind, Sem.run_pure, Result.andThen_ok, run_agg hT ht, hag, Bool.false_eq_true, if_false, run_load e]
   ·cases ha
  ·cases ha
 ·cases ha
theorem store_sim (hT : TOk C) (h : WRel w0 N0 G ρ st w) {t : TypeId} {a a' x x' : Value} (ha' : VRel ρ a a') (hx : VRel ρ x x') (ha : aStore C t a x st = some (.val v st')) :
  ∃ w', (Instr.storeAt t a' x').run C.P w = .ok () w' /\ WRel w0 N0 G ρ st' w' /\ v = undefV /\ st'.n = st.n := by
 unfold aStore at ha
 split at ha
 ·rename_i ti b o ht
  obtain ⟨l, hb, rfl⟩ := ptr_inv ha'
  split at ha
  ·rename_i hs
   split at ha
   ·rename_i st1 hw
    obtain ⟨rfl, rfl⟩ := val_eq ha
    obtain ⟨w', hr, hrel, hn⟩ := h.write hb hw hx.cells C.P
    have hlen := hx.cells.length
    have hs' := Nat.eq_of_beq_eq_true hs
    refine ⟨w', ?_, hrel, rfl, hn⟩
    have hsz : x'.cells.size = ti.size := by rw [<- hs', hlen]; simp
    simp only [Instr.storeAt, Instr.sureAddr, storeVar, Sem.run_bind, Sem.run_pure, Result.andThen_ok, run_size hT ht, hsz, ne_eq, not_true_eq_false, if_false, hr]
   ·cases ha
  ·cases ha
 ·cases ha
end
open Go.RowKit (Below)
section
variable {C : Ctx} {w0 : World} {N0 : Nat} {G : Nat -> Prop} {ρ : Ren} {st st' : St} {w : World} {v : Value}
theorem foldl_set (vs : List Value) : ∀ (c : Array Value) (off i : Nat), off + i + vs.length <= c.size ->
  ((vs.zipIdx i).foldl (fun cs (x : Value × Nat) => cs.setIfInBounds (off + x.2) x.1) c).toList = listSet c.toList (off + i) vs := by
 induction vs with
 | nil => intro c off i _; cases h : c.toList <;> simp [listSet, h]
 | cons v vs ih =>
  intro c off i hle
  simp only [List.length_cons] at hle
  simp only [List.zipIdx_cons, List.foldl_cons]
  rw [ih _ off (i + 1) (by simp; omega)]
  refine List.ext_getElem? fun j => ?_
  rw [listSet_get _ _ _ _ (by simp; omega), listSet_get _ _ _ _ (by simp; omega)]
  simp only [List.length_cons, Array.toList_setIfInBounds]
  by_cases h1 : j = off + i
  ·subst h1
   rw [if_neg (by omega), if_pos (by omega), Nat.sub_self, List.getElem?_set_self (by simp; omega)]
   rfl
  ·by_cases h2 : off + (i + 1) <= j /\ j < off + (i + 1) + vs.length
   ·rw [if_pos h2, if_pos (by omega), show j - (off + i) = (j - (off + (i + 1))) + 1 from by omega]
    rfl
   ·rw [if_neg h2, if_neg (by omega), List.getElem?_set_ne (by omega)]
inductive PsRel (ρ : Ren) : List (Nat × Value) -> List (Nat × Value) -> Prop
 | nil : PsRel ρ [] []
 | cons {i : Nat} {v v' : Value} {l l' : List (Nat × Value)} (h : VRel ρ v v') (t : PsRel ρ l l') : PsRel ρ ((i, v) :: l) ((i, v') :: l')
theorem listSet_rel {c c' vs vs' : List Value} (hc : VsRel ρ c c') (hv : VsRel ρ vs vs') {n : Nat} (hle : n + vs.length <= c.length) : VsRel ρ (listSet c n vs) (listSet c' n vs') := by
 have h1 := hc.length
 have h2 := hv.length
 refine VsRel.of_get (by rw [listSet_length, listSet_length, h1]) fun i v hi => ?_
 rw [listSet_get _ _ _ _ hle] at hi
 rw [listSet_get _ _ _ _ (by omega), <- h2]
 by_cases hr : n <= i /\ i < n + vs.length
 ·rw [if_pos hr] at hi ⊢; exact hv.get hi
 ·rw [if_neg hr] at hi ⊢; exact hc.get hi
theorem fill_sim {place place' : Nat -> Option (Nat × Nat)} (hp : ∀ i x, place i = some x -> place' i = some x) {ps ps' : List (Nat × Value)} (hps : PsRel ρ ps ps') :
  ∀ {c : List Value} {c' : Array Value} {r : List Value}, VsRel ρ c c'.toList -> afill place c ps = some r -> ∃ r', Instr.fill place' c' ps' = some r' /\ VsRel ρ r r'.toList := by
 induction hps with
 | nil => intro c c' r hc hf; simp [afill] at hf; subst hf; exact ⟨c', rfl, hc⟩
 | @cons i v v' l l' h t ih =>
  intro c c' r hc hf
  simp only [afill] at hf
  split at hf
  ·cases hf
  ·rename_i off size hpl
   split at hf
   ·rename_i hcond
    simp only [Bool.and_eq_true] at hcond
    have e1 := Nat.eq_of_beq_eq_true hcond.1
    have e2 := Nat.le_of_ble_eq_true hcond.2
    have hlen := h.cells.length
    have hcl := hc.length
    simp only [Array.length_toList] at hlen hcl
    have hfold := foldl_set v'.cells.toList c' off 0 (by simp; omega)
    have hrel : VsRel ρ (listSet c off (cellsOf v)) (v'.cells.zipIdx.foldl (fun cs (x : Value × Nat) => cs.setIfInBounds (off + x.2) x.1) c').toList := by
     have hz : v'.cells.zipIdx.foldl (fun cs (x : Value × Nat) => cs.setIfInBounds (off + x.2) x.1) c' = (v'.cells.toList.zipIdx 0).foldl (fun cs (x : Value × Nat) => cs.setIfInBounds (off + x.2) x.1) c' := by
      rw [<- Array.foldl_toList, Array.toList_zipIdx]
     rw [hz, hfold]
     exact listSet_rel hc h.cells (by omega)
    obtain ⟨r', hr1, hr2⟩ := ih hrel hf
    refine ⟨r', ?_, hr2⟩
    simp only [Instr.fill, hp _ _ hpl]
    rw [if_neg ?_]
    ·exact hr1
    ·simp; omega
   ·cases hf
theorem mapM_places (hT : TOk C) : ∀ (fs : List Field), (fs.all fun f => (C.tt.get f.type).isSome) = true ->
  ∃ ps : List (Nat × Nat), (fs.mapM (m := Sem) fun f => do pure (f.offset, <- sizeOf f.type)).run C.P w = .ok ps w /\ ∀ i x, fieldPlace' C ⟨fs⟩ i = some x -> ps[i]? = some x := by
 intro fs
 induction fs with
 | nil => intro _; exact ⟨[], by simp, fun i x h => by simp [fieldPlace', nth] at h⟩
 | cons f fs ih =>
  intro h
  simp only [List.all_cons, Bool.and_eq_true] at h
  obtain ⟨ps, e, hp⟩ := ih h.2
  obtain ⟨ti, ht⟩ := Option.isSome_iff_exists.1 h.1
  refine ⟨(f.offset, ti.size) :: ps, ?_, fun i x hx => ?_⟩
  ·simp only [List.mapM_cons, Sem.run_bind, run_size hT ht, Result.andThen_ok, Sem.run_pure, e]
  ·cases i with
   | zero => simp only [fieldPlace', nth, ht] at hx; simpa using hx
   | succ i => have hx' : fieldPlace' C ⟨fs⟩ i = some x := hx; simpa using hp i x hx'
theorem build_sim (hT : TOk C) (h : WRel w0 N0 G ρ st w) {t : TypeId} {ps : List (Nat × Value)} {ps' : Array (Nat × Value)} (hps : PsRel ρ ps ps'.toList) (ha : aBuild C t ps st = some (.val v st')) :
  ∃ v', (Instr.build t ps').run C.P w = .ok v' w /\ VRel ρ v v' /\ st' = st := by
 unfold aBuild at ha
 split at ha
 ·rename_i ti ht
  obtain ⟨z, hz, hzv⟩ := run_zero hT ht w
  have hzr : VsRel ρ ti.zero z.cells.toList := by rw [hzv.cells]; exact flats_rel (hT.zflat _ _ ht) ρ
  split at ha
  ·rename_i fields hd
   split at ha
   ·rename_i c hall hag hf
    obtain ⟨rfl, rfl⟩ := val_eq ha
    obtain ⟨pl, hpl, hpl2⟩ := mapM_places (w := w) hT fields.toList hall
    obtain ⟨r', hr1, hr2⟩ := fill_sim (place' := fun i => pl.toArray[i]?) (fun i x hx => by
     have := hpl2 i x hx
     simpa using this) hps hzr hf
    refine ⟨.agg r', ?_, .agg hr2, rfl⟩
    have hm : (fields.mapM (m := Sem) fun f => do pure (f.offset, <- sizeOf f.type)).run C.P w = .ok pl.toArray w := by
     rw [Array.mapM_eq_mapM_toList]
     simp only [map_eq_pure_bind, Sem.run_bind, hpl, Result.andThen_ok, Sem.run_pure]
    simp only [Instr.build, Sem.run_bind, hz, Result.andThen_ok, run_und hT ht, hd, hm, hr1, Sem.run_pure]
   ·cases ha
  ·rename_i n elem hd
   split at ha
   ·rename_i te hte hag
    split at ha
    ·rename_i c hf
     obtain ⟨rfl, rfl⟩ := val_eq ha
     obtain ⟨r', hr1, hr2⟩ := fill_sim (place' := fun i => some (i * te.size, te.size)) (fun i x hx => hx) hps hzr hf
     refine ⟨.agg r', ?_, .agg hr2, rfl⟩
     simp only [Instr.build, Sem.run_bind, hz, Result.andThen_ok, run_und hT ht, hd, run_size hT hte, hr1, Sem.run_pure]
    ·cases ha
   ·cases ha
  ·cases ha
 ·cases ha
theorem repl_eq (z : List Value) : ∀ n, (repl z n).length = n * z.length /\ ∀ i : Nat, i < n * z.length -> (repl z n)[i]? = z[i % z.length]? := by
 intro n
 induction n with
 | zero => exact ⟨by simp [repl], fun i h => by omega⟩
 | succ n ih =>
  refine ⟨by simp [repl, ih.1, Nat.add_mul, Nat.add_comm], fun i h => ?_⟩
  simp only [repl]
  by_cases hi : i < z.length
  ·rw [List.getElem?_append_left hi, Nat.mod_eq_of_lt hi]
  ·have h' : i < n * z.length + z.length := by rw [<- Nat.succ_mul]; exact h
   rw [List.getElem?_append_right (by omega), ih.2 _ (by omega)]
   congr 1
   exact (Nat.mod_eq_sub_mod (by omega)).symm
theorem repl_flat {z : List Value} (h : z.all flat = true) : ∀ n, (repl z n).all flat = true
 | 0 => rfl
 | n + 1 => by simp only [repl, List.all_append, h, Bool.true_and]; exact repl_flat h n
theorem afill_length {place : Nat -> Option (Nat × Nat)} : ∀ {ps : List (Nat × Value)} {c r : List Value}, afill place c ps = some r -> r.length = c.length := by
 intro ps
 induction ps with
 | nil => intro c r h; simp [afill] at h; rw [h]
 | cons x ps ih =>
  intro c r h
  obtain ⟨i, v⟩ := x
  simp only [afill] at h
  split at h
  ·cases h
  ·split at h
   ·rw [ih h, listSet_length]
   ·cases h
theorem zeros_eq (z : Array Value) (n : Nat) : ((Array.range (n * z.size)).map (z[· % z.size]!)).toList = repl z.toList n := by
 refine List.ext_getElem? fun i => ?_
 have hr := repl_eq z.toList n
 simp only [Array.length_toList] at hr
 rcases Nat.lt_or_ge i (n * z.size) with hi | hi
 ·rw [hr.2 i hi]
  have hpos : 0 < z.size := by
   rcases Nat.eq_zero_or_pos z.size with h | h
   ·rw [h] at hi; omega
   ·exact h
  have hm : i % z.size < z.size := Nat.mod_lt _ hpos
  rw [Array.getElem?_toList, Array.getElem?_map, Array.getElem?_range, if_pos hi]
  simp [hm, Array.getElem?_toList]
 ·rw [List.getElem?_eq_none (by simp; omega), List.getElem?_eq_none (by rw [hr.1]; exact hi)]
theorem buildSlice_sim (hT : TOk C) (h : WRel w0 N0 G ρ st w) {t : TypeId} {n : Nat} {ps : List (Nat × Value)} {ps' : Array (Nat × Value)} (hps : PsRel ρ ps ps'.toList) (ha : aBuildSlice C t n ps st = some (.val v st')) :
  SimV w0 N0 G ρ st' v ((Instr.buildSlice t n ps').run C.P w) := by
 unfold aBuildSlice at ha
 split at ha
 ·rename_i ti ht
  split at ha
  ·rename_i elem hd
   split at ha
   ·rename_i te hte
    split at ha
    ·rename_i c hcond hf
     split at ha
     ·rename_i hall
      obtain ⟨rfl, rfl⟩ := val_eq ha
      simp only [Bool.and_eq_true] at hcond
      have hpos := Nat.blt_eq.mp hcond.1.1
      have hle := Nat.le_of_ble_eq_true hcond.1.2
      have hzl := Nat.eq_of_beq_eq_true hcond.2
      obtain ⟨z, hz, hzv⟩ := run_zero hT hte w
      have hzs : z.cells.size = te.size := by rw [<- hzl, <- hzv.cells]; simp
      have hzr : VsRel ρ (repl te.zero n) ((Array.range (n * te.size)).map (z.cells[· % z.cells.size]!)).toList := by
       rw [<- hzs, zeros_eq, hzv.cells]
       exact flats_rel (repl_flat (hT.zflat _ _ hte) n) ρ
      obtain ⟨r', hr1, hr2⟩ := fill_sim (place' := fun i => some (i * te.size, te.size)) (fun i x hx => hx) hps hzr hf
      have hlen : r'.size = n * te.size := by
       have h1 := hr2.length
       have h2 := afill_length hf
       have h3 := (repl_eq te.zero n).1
       simp only [Array.length_toList] at h1
       rw [<- h1, h2, h3, hzl]
      refine ⟨_, .slice (some ⟨w.heap.size, 0, none⟩) n n, _, ?_, Ren.le_add h.none_at, h.row elem hr2, ?_⟩
      ·by_cases h0 : n * te.size = 0
       ·have hm0 : ∀ f : Nat -> Value, Array.map f (Array.range 0) = #[] := fun _ => Array.eq_empty_of_size_eq_zero (by simp)
        simp only [h0, hm0] at hr1
        simp only [Instr.buildSlice, Sem.run_bind, run_und hT ht, hd, Result.andThen_ok, run_size hT hte, h0, if_neg (by omega : ¬ 0 > 2 ^ 24), if_true, Sem.run_pure, hm0, hr1, run_newRow]
       ·simp only [Instr.buildSlice, Sem.run_bind, run_und hT ht, hd, Result.andThen_ok, run_size hT hte, if_neg (by omega : ¬ n * te.size > 2 ^ 24), if_neg h0, hz, Sem.run_pure, hr1, run_newRow]
      ·refine .slice (l := ⟨w.heap.size, 0, te.size, r'.size⟩) (Ren.add_same _ _ _) (Nat.le_refl _) ?_
       simp [hlen]
     ·cases ha
    ·cases ha
   ·cases ha
  ·cases ha
 ·cases ha
end
open Go.RowKit (Below)
theorem intEq_true {a b : Int} : intEq a b = true ↔ a = b := by
 cases a <;> cases b <;> simp only [intEq, Nat.beq_eq] <;> first | (constructor <;> intro h <;> first | omega | (cases h; rfl) | (subst h; rfl)) | simp
theorem intEq_iff (a b : Int) : intEq a b = (a == b) := by
 rw [Bool.eq_iff_iff, intEq_true]; simp
theorem kindEq_iff {k k' : IntKind} : kindEq k k' = true ↔ k = k' := by
 cases k <;> cases k' <;> simp [kindEq]
theorem intLt_true {a b : Int} : intLt a b = true ↔ a < b := by
 cases a <;> cases b <;> simp only [intLt, Nat.blt_eq]
 all_goals simp only [Int.negSucc_eq, Int.ofNat_eq_natCast]
 ·omega
 ·exact ⟨fun h => absurd h (by simp), fun h => by omega⟩
 ·exact ⟨fun _ => by omega, fun _ => trivial⟩
 ·omega
theorem intLt_iff (a b : Int) : intLt a b = decide (a < b) := by
 rw [Bool.eq_iff_iff, intLt_true]; simp
theorem bytesEq_iff : ∀ (a b : List UInt8), bytesEq a b = (a == b) := by
 intro a
 induction a with
 | nil => intro b; cases b <;> rfl
 | cons x a ih =>
  intro b
  cases b with
  | nil => rfl
  | cons y b =>
   simp only [bytesEq]
   cases h : Nat.beq x.toNat y.toNat with
   | true =>
    have : x = y := UInt8.toNat_inj.1 (Nat.eq_of_beq_eq_true h)
    subst this
    simp [ih]
   | false =>
    have : x ≠ y := fun e => Nat.ne_of_beq_eq_false h (by rw [e])
    simp [this]
theorem bytesLt_iff : ∀ (a b : List UInt8), bytesLt a b = Op.bytesLess a b := by
 intro a
 induction a with
 | nil => intro b; cases b <;> rfl
 | cons x a ih =>
  intro b
  cases b with
  | nil => rfl
  | cons y b =>
   simp only [bytesLt, Op.bytesLess]
   have e1 : (decide (x < y)) = Nat.blt x.toNat y.toNat := by
    rw [Bool.eq_iff_iff]; simp [UInt8.lt_iff_toNat_lt]
   rw [e1]
   cases Nat.blt x.toNat y.toNat with
   | true => rfl
   | false =>
    cases h : Nat.beq x.toNat y.toNat with
    | true =>
     have : x = y := UInt8.toNat_inj.1 (Nat.eq_of_beq_eq_true h)
     subst this
     simp [ih]
    | false =>
     have : x ≠ y := fun e => Nat.ne_of_beq_eq_false h (by rw [e])
     simp [this]
theorem toList_data (s : ByteArray) : s.toList = s.data.toList := by
 rw [Go.ByteArray.toList_eq]
section
variable {C : Ctx} {w0 : World} {N0 : Nat} {G : Nat -> Prop} {ρ : Ren} {st st' : St} {w : World} {v : Value}
theorem intBin_sim {op : BinOp} {k : IntKind} {a b : Int} (h : intBin op k a b = some v) (hs : isShift op = false) (t : TypeId) : (binOp op t (.int k a) (.int k b)).run C.P w = .ok v w := by
 cases op <;> simp [isShift] at hs <;> simp only [intBin, Option.some.injEq] at h
 case quo =>
  split at h
  ·cases h
  ·rename_i hb
   have hb' : b ≠ 0 := by rw [intEq_iff] at hb; simpa using hb
   cases h
   simp [binOp, Op.intDiv, hb']
 case rem =>
  split at h
  ·cases h
  ·rename_i hb
   have hb' : b ≠ 0 := by rw [intEq_iff] at hb; simpa using hb
   cases h
   simp [binOp, Op.intDiv, hb']
 all_goals
  subst h
  simp only [binOp, ne_eq, not_true_eq_false, if_false, Op.intArith, Op.intBits, Op.intCmp, Sem.run_pure, intEq_iff, intLt_iff]
  try rfl
 ·have : decide (a <= b) = !decide (b < a) := by rw [Bool.eq_iff_iff]; simp
  rw [this]
 ·have : decide (a ≥ b) = !decide (a < b) := by rw [Bool.eq_iff_iff]; simp
  rw [this]
theorem shiftBin_sim {op : BinOp} {k k' : IntKind} {a b : Int} (h : shiftBin op k a b = some v) (t : TypeId) : (binOp op t (.int k a) (.int k' b)).run C.P w = .ok v w := by
 unfold shiftBin at h
 split at h
 ·rename_i n
  split at h
  ·cases h; simp [binOp, Op.shift]; intro h; omega
  ·cases h; simp [binOp, Op.shift]; intro h; omega
  ·cases h
 ·cases h
theorem size_data (s : ByteArray) : s.size = s.data.toList.length := by
 cases s; rfl
theorem strCat_eq (a b : ByteArray) : a ++ b = strCat a b := by
 apply ByteArray.ext
 simp [strCat, ByteArray.data_append]
theorem strBin_sim {op : BinOp} {a b : ByteArray} (h : strBin op a b = some v) (t : TypeId) : (binOp op t (.string a) (.string b)).run C.P w = .ok v w := by
 have he : (a.toList == b.toList) = strEq a b := by rw [toList_data, toList_data, strEq, bytesEq_iff]
 have hl : Op.bytesLess a.toList b.toList = strLt a b := by rw [toList_data, toList_data, strLt, bytesLt_iff]
 cases op <;> simp only [strBin, Option.some.injEq] at h
 case add =>
  split at h
  ·rename_i hle
   cases h
   have := Nat.le_of_ble_eq_true hle
   have hmax : ¬ (((a.size + b.size : Nat) : Int) > IntKind.i64.max) := by
    rw [size_data, size_data]
    simp [IntKind.max, IntKind.signed, IntKind.bits]
    simp at this
    omega
   simp only [binOp, Op.stringOp, if_neg hmax, Sem.run_pure, strCat_eq]
  ·cases h
 all_goals first
  | cases h; done
  | (subst h; simp only [binOp, Op.stringOp, Sem.run_pure, he, hl])
end
open Go.RowKit (Below)
section
variable {C : Ctx} {w0 : World} {N0 : Nat} {G : Nat -> Prop} {ρ : Ren} {st st' : St} {w : World} {v : Value}
theorem basicEq_sim {t : TypeId} {d : TypeDesc} {a b a' b' : Value} {r : Bool} (hd : C.P.underlying t = some d) (ha : VRel ρ a a') (hb : VRel ρ b b') (h : basicEq d a b = some r) (n : Nat) :
  (Op.equalIn (n + 1) t a' b').run C.P w = .ok r w := by
 unfold basicEq at h
 split at h
 ·cases ha; cases hb; cases h
  exact run_equalIn_bool' w n t _ _ hd
 ·rename_i k0 k a k' b
  split at h
  ·rename_i hk
   have := kindEq_iff.1 hk
   subst this
   cases ha; cases hb; cases h
   rw [run_equalIn_int w n t k k0 _ _ hd, intEq_iff]
  ·cases h
 ·cases ha; cases hb; cases h
  rw [run_equalIn_string w n t _ _ hd, toList_data, toList_data, strEq, bytesEq_iff]
 ·cases h
theorem run_part (hT : TOk C) {t : TypeId} {ti : TI} (ht : C.tt.get t = some ti) {cs : Array Value} {off : Nat} {x : Value} (hag : ti.agg = false) (hx : cs[off]? = some x) :
  (part t cs off).run C.P w = .ok x w := by
 unfold part
 simp only [Sem.run_bind, run_agg hT ht, Result.andThen_ok, hag, Bool.false_eq_true, if_false, hx, Sem.run_pure]
theorem fieldsEq_sim (hT : TOk C) {xs ys xs' ys' : Array Value} (hx : VsRel ρ xs.toList xs'.toList) (hy : VsRel ρ ys.toList ys'.toList) (n : Nat) :
  ∀ {fs : List Field} {r : Bool}, fieldsEq C xs.toList ys.toList fs = some r -> (Op.eqFields (n + 1) xs' ys' fs).run C.P w = .ok r w := by
 intro fs
 induction fs with
 | nil => intro r h; simp [fieldsEq] at h; subst h; rfl
 | cons f fs ih =>
  intro r h
  simp only [fieldsEq] at h
  split at h
  ·cases h
  ·rename_i hn
   have hn' : f.name ≠ "_" := by simpa using hn
   split at h
   ·rename_i ti a b ht ha hb
    split at h
    ·cases h
    ·rename_i hag
     rw [nth_eq] at ha hb
     obtain ⟨a', ea, ra⟩ := hx.get ha
     obtain ⟨b', eb, rb⟩ := hy.get hb
     rw [Array.getElem?_toList] at ea eb
     split at h
     ·rename_i hbe
      have := basicEq_sim (w := w) (hT.und _ _ ht) ra rb hbe n
      simp only [Op.eqFields, ne_eq, hn', not_false_eq_true, if_true, Sem.run_bind, run_part hT ht hag ea, run_part hT ht hag eb, Result.andThen_ok, this, Bool.not_true, Bool.false_eq_true, if_false]
      exact ih h
     ·rename_i hbe
      cases h
      have := basicEq_sim (w := w) (hT.und _ _ ht) ra rb hbe n
      simp only [Op.eqFields, ne_eq, hn', not_false_eq_true, if_true, Sem.run_bind, run_part hT ht hag ea, run_part hT ht hag eb, Result.andThen_ok, this, Bool.not_false, Sem.run_pure]
     ·cases h
   ·cases h
theorem eqIn_ptr_l {n : Nat} {t e : TypeId} (hu : C.P.underlying t = some (.pointer e)) (q : Option Addr) : (Op.equalIn (n + 1) t (.pointer none) (.pointer q)).run C.P w = .ok q.isNone w := by
 rw [Op.equalIn, Sem.run_bind, run_underlying hu, Result.andThen_ok]; rfl
theorem eqIn_ptr_r {n : Nat} {t e : TypeId} (hu : C.P.underlying t = some (.pointer e)) (q : Addr) : (Op.equalIn (n + 1) t (.pointer (some q)) (.pointer none)).run C.P w = .ok false w := by
 rw [Op.equalIn, Sem.run_bind, run_underlying hu, Result.andThen_ok]; rfl
theorem eqIn_ptr {n : Nat} {t e : TypeId} (hu : C.P.underlying t = some (.pointer e)) (p q : Addr) : (Op.equalIn (n + 1) t (.pointer (some p)) (.pointer (some q))).run C.P w =
  (do if (<- sizeOf e) ≠ 0 then sameAddr p q else if p == q then pure true else pure ((<- choose .zeroSizeEq) = 1) : Sem Bool).run C.P w := by
 rw [Op.equalIn, Sem.run_bind, run_underlying hu, Result.andThen_ok]
theorem eqIn_if_nn {n : Nat} {t : TypeId} {ms : Array (String × TypeId)} (hu : C.P.underlying t = some (.interface ms)) : (Op.equalIn (n + 1) t .nilIface .nilIface).run C.P w = .ok true w := by
 rw [Op.equalIn, Sem.run_bind, run_underlying hu, Result.andThen_ok]; rfl
theorem eqIn_if_l {n : Nat} {t : TypeId} {ms : Array (String × TypeId)} (hu : C.P.underlying t = some (.interface ms)) (u : TypeId) (x : Value) : (Op.equalIn (n + 1) t .nilIface (.iface u x)).run C.P w = .ok false w := by
 rw [Op.equalIn, Sem.run_bind, run_underlying hu, Result.andThen_ok]; rfl
theorem eqIn_if_r {n : Nat} {t : TypeId} {ms : Array (String × TypeId)} (hu : C.P.underlying t = some (.interface ms)) (u : TypeId) (x : Value) : (Op.equalIn (n + 1) t (.iface u x) .nilIface).run C.P w = .ok false w := by
 rw [Op.equalIn, Sem.run_bind, run_underlying hu, Result.andThen_ok]; rfl
theorem eqIn_sl_l {n : Nat} {t e : TypeId} (hu : C.P.underlying t = some (.slice e)) (q : Option Addr) (a b c d : Nat) : (Op.equalIn (n + 1) t (.slice none a b) (.slice q c d)).run C.P w = .ok q.isNone w := by
 rw [Op.equalIn, Sem.run_bind, run_underlying hu, Result.andThen_ok]; rfl
theorem eqIn_sl_r {n : Nat} {t e : TypeId} (hu : C.P.underlying t = some (.slice e)) (q : Addr) (a b c d : Nat) : (Op.equalIn (n + 1) t (.slice (some q) a b) (.slice none c d)).run C.P w = .ok false w := by
 rw [Op.equalIn, Sem.run_bind, run_underlying hu, Result.andThen_ok]; rfl
theorem eqIn_map_l {n : Nat} {t k e : TypeId} (hu : C.P.underlying t = some (.map k e)) (q : Option Nat) : (Op.equalIn (n + 1) t (.map none) (.map q)).run C.P w = .ok q.isNone w := by
 rw [Op.equalIn, Sem.run_bind, run_underlying hu, Result.andThen_ok]; rfl
theorem eqIn_map_r {n : Nat} {t k e : TypeId} (hu : C.P.underlying t = some (.map k e)) (q : Nat) : (Op.equalIn (n + 1) t (.map (some q)) (.map none)).run C.P w = .ok false w := by
 rw [Op.equalIn, Sem.run_bind, run_underlying hu, Result.andThen_ok]; rfl
theorem eqIn_fn_nn {n : Nat} {t : TypeId} {ps rs : Array TypeId} {vd : Bool} (hu : C.P.underlying t = some (.func ps rs vd)) : (Op.equalIn (n + 1) t .nilFunc .nilFunc).run C.P w = .ok true w := by
 rw [Op.equalIn, Sem.run_bind, run_underlying hu, Result.andThen_ok]; rfl
theorem eqIn_fn_l {n : Nat} {t : TypeId} {ps rs : Array TypeId} {vd : Bool} (hu : C.P.underlying t = some (.func ps rs vd)) (f : Fn) (a b : Array Value) : (Op.equalIn (n + 1) t .nilFunc (.func f a b)).run C.P w = .ok false w := by
 rw [Op.equalIn, Sem.run_bind, run_underlying hu, Result.andThen_ok]; rfl
theorem eqIn_fn_r {n : Nat} {t : TypeId} {ps rs : Array TypeId} {vd : Bool} (hu : C.P.underlying t = some (.func ps rs vd)) (f : Fn) (a b : Array Value) : (Op.equalIn (n + 1) t (.func f a b) .nilFunc).run C.P w = .ok false w := by
 rw [Op.equalIn, Sem.run_bind, run_underlying hu, Result.andThen_ok]; rfl
theorem guard_ptr (op : BinOp) (t : TypeId) (x y : Operand) (p q : Option Addr) : (eqGuard op t x y (.pointer p) (.pointer q)).run C.P w = .ok () w := by cases op <;> rfl
theorem guard_l (op : BinOp) (t : TypeId) (x y : Operand) (u : TypeId) (z : Value) : (eqGuard op t x y .nilIface (.iface u z)).run C.P w = .ok () w := by cases op <;> rfl
theorem guard_r (op : BinOp) (t : TypeId) (x y : Operand) (u : TypeId) (z : Value) : (eqGuard op t x y (.iface u z) .nilIface).run C.P w = .ok () w := by cases op <;> rfl
theorem guard_sl (op : BinOp) (t : TypeId) (x y : Operand) (p q : Option Addr) (a b c d : Nat) : (eqGuard op t x y (.slice p a b) (.slice q c d)).run C.P w = .ok () w := by cases op <;> rfl
theorem guard_map (op : BinOp) (t : TypeId) (x y : Operand) (p q : Option Nat) : (eqGuard op t x y (.map p) (.map q)).run C.P w = .ok () w := by cases op <;> rfl
theorem guard_nf (op : BinOp) (t : TypeId) (x y : Operand) : (eqGuard op t x y .nilFunc .nilFunc).run C.P w = .ok () w := by cases op <;> rfl
theorem guard_fl (op : BinOp) (t : TypeId) (x y : Operand) (f : Fn) (a b : Array Value) : (eqGuard op t x y .nilFunc (.func f a b)).run C.P w = .ok () w := by cases op <;> rfl
theorem guard_fr (op : BinOp) (t : TypeId) (x y : Operand) (f : Fn) (a b : Array Value) : (eqGuard op t x y (.func f a b) .nilFunc).run C.P w = .ok () w := by cases op <;> rfl
theorem guard_b (op : BinOp) (t : TypeId) (x y : Operand) (a b : Bool) : (eqGuard op t x y (.bool a) (.bool b)).run C.P w = .ok () w := by cases op <;> rfl
theorem guard_i (op : BinOp) (t : TypeId) (x y : Operand) (k k' : IntKind) (a b : Int) : (eqGuard op t x y (.int k a) (.int k' b)).run C.P w = .ok () w := by cases op <;> rfl
theorem guard_s (op : BinOp) (t : TypeId) (x y : Operand) (a b : ByteArray) : (eqGuard op t x y (.string a) (.string b)).run C.P w = .ok () w := by cases op <;> rfl
theorem guard_nn (op : BinOp) (t : TypeId) (x y : Operand) (h : (isConstOp x || isConstOp y) = true) : (eqGuard op t x y .nilIface .nilIface).run C.P w = .ok () w := by
 cases op <;> cases x <;> cases y <;> first | rfl | (simp [isConstOp] at h; done)
theorem aEq_sim (hT : TOk C) {t : TypeId} {x y : Operand} {a b a' b' : Value} {r : Bool} (ha : VRel ρ a a') (hb : VRel ρ b b') (h : aEq C t x y a b = some r) (op : BinOp) :
  (∀ n, (Op.equalIn (n + 2) t a' b').run C.P w = .ok r w) /\ (eqGuard op t x y a' b').run C.P w = .ok () w := by
 unfold aEq at h
 split at h
 ·cases h
 ·rename_i ti ht
  have hu := hT.und _ _ ht
  split at h
  ·rename_i hd
   cases h
   cases ha
   rw [hd] at hu
   cases hb <;> exact ⟨fun n => eqIn_ptr_l hu _, guard_ptr _ _ _ _ _ _⟩
  ·rename_i hne hd
   cases h
   cases hb
   rw [hd] at hu
   cases ha
   ·exact (hne rfl).elim
   ·exact ⟨fun n => eqIn_ptr_r hu _, guard_ptr _ _ _ _ _ _⟩
  ·rename_i e p q _ hd
   rw [hd] at hu
   split at h
   ·rename_i te pb po qb qo he
    split at h
    ·rename_i hcond
     simp only [Bool.and_eq_true] at hcond
     have hpos := Nat.blt_eq.mp hcond.1
     have := Nat.eq_of_beq_eq_true hcond.2
     subst this
     cases h
     obtain ⟨l, hl, rfl⟩ := ptr_inv ha
     obtain ⟨l2, hl2, rfl⟩ := ptr_inv hb
     rw [hl] at hl2
     cases hl2
     refine ⟨?_, guard_ptr _ _ _ _ _ _⟩
     have hne : te.size ≠ 0 := by omega
     have hbool : ((⟨l.b, l.d + po, none⟩ : Addr) == ⟨l.b, l.d + qo, none⟩) = Nat.beq po qo := by
      rw [Bool.eq_iff_iff, Nat.beq_eq, beq_iff_eq, Addr.mk.injEq]
      constructor
      ·rintro ⟨_, h, _⟩; omega
      ·rintro h; exact ⟨rfl, by omega, rfl⟩
     intro n
     rw [eqIn_ptr hu]
     simp only [Sem.run_bind, Result.andThen_ok, run_size hT he, ne_eq, hne, not_false_eq_true, if_true, sameAddr, beq_self_eq_true, Sem.run_pure, hbool]
    ·cases h
   ·cases h
  ·rename_i hd
   rw [hd] at hu
   split at h
   ·rename_i hc
    cases h
    cases ha; cases hb
    exact ⟨fun n => eqIn_if_nn hu, guard_nn _ _ _ _ hc⟩
   ·cases h
  ·rename_i hd
   rw [hd] at hu
   cases h; cases ha; cases hb
   exact ⟨fun n => eqIn_if_l hu _ _, guard_l _ _ _ _ _ _⟩
  ·rename_i hd
   rw [hd] at hu
   cases h; cases ha; cases hb
   exact ⟨fun n => eqIn_if_r hu _ _, guard_r _ _ _ _ _ _⟩
  ·rename_i fields xs ys hd
   rw [hd] at hu
   simp only at h
   split at h
   ·cases h
   ·rename_i hg
    rw [Bool.or_eq_false_iff] at hg
    cases ha with
    | agg ha =>
     cases hb with
     | agg hb =>
      have hf : C.P.fieldsOf t = fields := by unfold Program.fieldsOf; rw [hu]
      have hu' : C.P.underlying t = some (.struct (C.P.fieldsOf t)) := by rw [hf]; exact hu
      refine ⟨?_, run_eqGuard_agg w op t x y _ _ hg.1⟩
      intro n
      rw [run_equalIn_agg w (n + 1) t _ _ hu' hg.2, hf]
      exact fieldsEq_sim hT ha hb n h
  ·rename_i hd
   rw [hd] at hu
   cases h; cases ha
   cases hb <;> exact ⟨fun n => eqIn_sl_l hu _ _ _ _ _, guard_sl _ _ _ _ _ _ _ _ _ _⟩
  ·rename_i hne hd
   rw [hd] at hu
   cases h; cases hb
   cases ha <;> first | exact (hne _ _ rfl).elim | exact (hne rfl).elim | exact ⟨fun n => eqIn_sl_r hu _ _ _ _ _, guard_sl _ _ _ _ _ _ _ _ _ _⟩
  ·rename_i hd
   rw [hd] at hu
   cases h; cases ha
   cases hb <;> exact ⟨fun n => eqIn_map_l hu _, guard_map _ _ _ _ _ _⟩
  ·rename_i hne hd
   rw [hd] at hu
   cases h; cases hb
   cases ha <;> first | exact (hne rfl).elim | exact ⟨fun n => eqIn_map_r hu _, guard_map _ _ _ _ _ _⟩
  ·rename_i hd
   rw [hd] at hu
   cases h; cases ha; cases hb
   exact ⟨fun n => eqIn_fn_nn hu, guard_nf _ _ _ _⟩
  ·rename_i hd
   rw [hd] at hu
   cases h; cases ha
   cases hb <;> exact ⟨fun n => eqIn_fn_l hu _ _ _, guard_fl _ _ _ _ _ _ _⟩
  ·rename_i hd
   rw [hd] at hu
   cases h; cases hb
   cases ha <;> exact ⟨fun n => eqIn_fn_r hu _ _ _, guard_fr _ _ _ _ _ _ _⟩
  ·refine ⟨fun n => basicEq_sim hu ha hb h (n + 1), ?_⟩
   unfold basicEq at h
   split at h
   ·cases ha; cases hb; exact guard_b _ _ _ _ _ _
   ·cases ha; cases hb; exact guard_i _ _ _ _ _ _ _ _
   ·cases ha; cases hb; exact guard_s _ _ _ _ _ _
   ·cases h
end
open Go.RowKit (Below)
section
variable {C : Ctx} {w0 : World} {N0 : Nat} {G : Nat -> Prop} {ρ : Ren} {st st' : St} {w : World} {v : Value}
theorem run_eql_of {t : TypeId} {a b : Value} {r : Bool} (h : ∀ n, (Op.equalIn (n + 2) t a b).run C.P w = .ok r w) : (Op.equal t a b).run C.P w = .ok r w := h 9998
theorem binOp_eql {t : TypeId} {a b : Value} (h1 : ∀ k x k' y, ¬ (a = .int k x /\ b = .int k' y)) (h2 : ∀ x y, ¬ (a = .string x /\ b = .string y)) (h3 : ∀ k x, a ≠ .float k x) (h4 : ∀ k x y, a ≠ .complex k x y) :
  binOp .eql t a b = (do pure (.bool (<- Op.equal t a b))) /\ binOp .neq t a b = (do pure (.bool (!(<- Op.equal t a b)))) := by
 constructor
 ·cases a <;> first | (exfalso; exact h3 _ _ rfl) | (exfalso; exact h4 _ _ _ rfl) | (cases b <;> first | rfl | (exfalso; exact h1 _ _ _ _ ⟨rfl, rfl⟩) | (exfalso; exact h2 _ _ ⟨rfl, rfl⟩))
 ·cases a <;> first | (exfalso; exact h3 _ _ rfl) | (exfalso; exact h4 _ _ _ rfl) | (cases b <;> first | rfl | (exfalso; exact h1 _ _ _ _ ⟨rfl, rfl⟩) | (exfalso; exact h2 _ _ ⟨rfl, rfl⟩))
theorem VRel.noFloat {a a' : Value} (h : VRel ρ a a') : (∀ k x, a' ≠ .float k x) /\ (∀ k x y, a' ≠ .complex k x y) := by
 cases h <;> exact ⟨(fun _ _ e => by cases e), (fun _ _ _ e => by cases e)⟩
theorem bin_sim (hT : TOk C) {op : BinOp} {t : TypeId} {x y : Operand} {a b a' b' : Value} (ha : VRel ρ a a') (hb : VRel ρ b b') (h : aBin C op t x y a b = some v) :
  (do eqGuard op t x y a' b'; binOp op t a' b' : Sem Value).run C.P w = .ok v w /\ VRel ρ v v := by
 unfold aBin at h
 split at h
 ·rename_i k m k' n
  cases ha; cases hb
  have hg : (eqGuard op t x y (.int k m) (.int k' n)).run C.P w = .ok () w := guard_i _ _ _ _ _ _ _ _
  rw [Sem.run_bind, hg, Result.andThen_ok]
  split at h
  ·refine ⟨shiftBin_sim h t, ?_⟩
   unfold shiftBin at h
   split at h <;> first | cases h | skip
   split at h <;> cases h <;> exact .int _ _
  ·rename_i hs
   split at h
   ·rename_i hk
    have := kindEq_iff.1 hk
    subst this
    refine ⟨intBin_sim h hs t, ?_⟩
    unfold intBin at h
    split at h <;> first | (cases h; first | exact .int _ _ | exact .bool _) | (split at h <;> cases h <;> exact .int _ _) | cases h
   ·cases h
 ·cases ha; cases hb
  rw [Sem.run_bind, guard_s, Result.andThen_ok]
  refine ⟨strBin_sim h t, ?_⟩
  unfold strBin at h
  split at h <;> first | (cases h; exact .bool _) | (split at h <;> cases h <;> exact .string _) | cases h
 ·rename_i hi hs
  have hint : ∀ k x k' y, ¬ (a' = .int k x /\ b' = .int k' y) := by
   rintro k x k' y ⟨rfl, rfl⟩
   cases ha; cases hb
   exact hi _ _ _ _ rfl rfl
  have hstr : ∀ x y, ¬ (a' = .string x /\ b' = .string y) := by
   rintro x y ⟨rfl, rfl⟩
   cases ha; cases hb
   exact hs _ _ rfl rfl
  obtain ⟨e1, e2⟩ := binOp_eql (t := t) hint hstr ha.noFloat.1 ha.noFloat.2
  split at h
  ·cases he : aEq C t x y a b with
   | none => rw [he] at h; cases h
   | some r =>
    rw [he] at h
    cases h
    obtain ⟨h1, h2⟩ := aEq_sim (w := w) hT ha hb he .eql
    refine ⟨?_, .bool _⟩
    rw [Sem.run_bind, h2, Result.andThen_ok, e1, Sem.run_bind, run_eql_of h1, Result.andThen_ok, Sem.run_pure]
  ·cases he : aEq C t x y a b with
   | none => rw [he] at h; cases h
   | some r =>
    rw [he] at h
    cases h
    obtain ⟨h1, h2⟩ := aEq_sim (w := w) hT ha hb he .neq
    refine ⟨?_, .bool _⟩
    rw [Sem.run_bind, h2, Result.andThen_ok, e2, Sem.run_bind, run_eql_of h1, Result.andThen_ok, Sem.run_pure]
  ·cases h
theorem un_sim {op : UnOp} {x x' : Value} (hx : VRel ρ x x') (h : aUn op x = some v) : (Op.unary op x').run C.P w = .ok v w /\ VRel ρ v v := by
 unfold aUn at h
 split at h
 ·cases hx; cases h; exact ⟨rfl, .int _ _⟩
 ·cases hx; cases h; exact ⟨rfl, .int _ _⟩
 ·cases hx; cases h; exact ⟨rfl, .bool _⟩
 ·cases h
theorem nilCheck_sim {x x' : Value} (hx : VRel ρ x x') (h : aNilCheck x st = some (.val v st')) :
  v = x /\ st' = st /\ x' ≠ .pointer none /\ x' ≠ .nilIface /\ x' ≠ .nilFunc /\ ∀ n a b, x' ≠ .func (.method n) a b := by
 unfold aNilCheck at h
 split at h <;> first | (obtain ⟨rfl, rfl⟩ := val_eq h) | cases h
 all_goals cases hx
 all_goals exact ⟨rfl, rfl, (fun e => by cases e), (fun e => by cases e), (fun e => by cases e), (fun _ _ _ e => by cases e)⟩
theorem makeInterface_sim (hT : TOk C) {t : TypeId} {x x' : Value} (hx : VRel ρ x x') (h : aMakeInterface C t x st = some (.val v st')) :
  (Instr.makeInterface t x').run C.P w = .ok (.iface t x') w /\ v = .iface t x /\ st' = st /\ VRel ρ v (.iface t x') := by
 unfold aMakeInterface at h
 split at h
 ·rename_i ti ht
  split at h
  ·cases h
  ·rename_i hd
   obtain ⟨rfl, rfl⟩ := val_eq h
   refine ⟨?_, rfl, rfl, .iface t hx⟩
   unfold Instr.makeInterface
   rw [Sem.run_bind, run_und hT ht, Result.andThen_ok]
   split
   ·rename_i ms e; exact absurd e (hd ms)
   ·rfl
 ·cases h
theorem fieldPlace_eq {C : Ctx} {fields : Array Field} {i off size : Nat} (h : fieldPlace' C fields i = some (off, size)) : ∃ f ti, fields[i]? = some f /\ C.tt.get f.type = some ti /\ f.offset = off /\ ti.size = size := by
 unfold fieldPlace' at h
 split at h
 ·rename_i f hf
  split at h
  ·rename_i ti ht
   cases h
   rw [nth_eq, Array.getElem?_toList] at hf
   exact ⟨f, ti, hf, ht, rfl, rfl⟩
  ·cases h
 ·cases h
theorem fieldAddr_sim (hT : TOk C) {t : TypeId} {x x' : Value} {k : Nat} (hx : VRel ρ x x') (h : aFieldAddr C t x k st = some (.val v st')) :
  ∃ v', (Instr.fieldAt t x' k).run C.P w = .ok v' w /\ VRel ρ v v' /\ st' = st := by
 unfold aFieldAddr at h
 split at h
 ·rename_i ti b o ht
  obtain ⟨l, hl, rfl⟩ := ptr_inv hx
  split at h
  ·rename_i fields hd
   split at h
   ·rename_i off size hp
    split at h
    ·rename_i hpos
     obtain ⟨rfl, rfl⟩ := val_eq h
     obtain ⟨f, tf, hf, htf, rfl, rfl⟩ := fieldPlace_eq hp
     have hne : tf.size ≠ 0 := by have := Nat.blt_eq.mp hpos; omega
     refine ⟨.pointer (some ⟨l.b, l.d + (o + f.offset), none⟩), ?_, .ptr hl, rfl⟩
     simp only [Instr.fieldAt, Sem.run_bind, run_und hT ht, hd, Result.andThen_ok, hf, Instr.sureAddr, Sem.run_pure, fieldPlace, run_size hT htf, if_neg hne, add_none, Nat.add_assoc]
    ·cases h
   ·cases h
  ·cases h
 ·cases h
theorem part_sim (hT : TOk C) {t : TypeId} {cs : List Value} {cs' : Array Value} {off : Nat} {x : Value} (hc : VsRel ρ cs cs'.toList) (h : aPart C t cs off = some x) :
  ∃ x', (part t cs' off).run C.P w = .ok x' w /\ VRel ρ x x' := by
 unfold aPart at h
 split at h
 ·rename_i ti ht
  split at h
  ·rename_i hag
   split at h
   ·rename_i hle
    cases h
    refine ⟨.agg (cs'.extract off (off + ti.size)), ?_, .agg ?_⟩
    ·simp only [part, Sem.run_bind, run_agg hT ht, hag, Result.andThen_ok, if_true, run_size hT ht, Sem.run_pure]
    ·have : (cs'.extract off (off + ti.size)).toList = (cs'.toList.drop off).take ti.size := by
      simp [List.extract_eq_take_drop]
     rw [this]
     simpa using (hc.drop off).take ti.size
   ·cases h
  ·rename_i hag
   rw [nth_eq] at h
   obtain ⟨x', e, r⟩ := hc.get h
   rw [Array.getElem?_toList] at e
   exact ⟨x', run_part hT ht hag e, r⟩
 ·cases h
theorem field_sim (hT : TOk C) {t : TypeId} {x x' : Value} {k : Nat} (hx : VRel ρ x x') (h : aField C t x k st = some (.val v st')) :
  ∃ v', (Instr.field t x' k).run C.P w = .ok v' w /\ VRel ρ v v' /\ st' = st := by
 unfold aField at h
 split at h
 ·rename_i ti cs ht
  cases hx with
  | agg hx =>
   split at h
   ·rename_i fields hd
    split at h
    ·rename_i fd hf
     split at h
     ·rename_i u hp
      obtain ⟨rfl, rfl⟩ := val_eq h
      rw [nth_eq, Array.getElem?_toList] at hf
      obtain ⟨u', e, r⟩ := part_sim (w := w) hT hx hp
      refine ⟨u', ?_, r, rfl⟩
      simp only [Instr.field, Sem.run_bind, run_und hT ht, hd, Result.andThen_ok, hf, asAgg, Sem.run_pure, e]
     ·cases h
    ·cases h
   ·cases h
 ·cases h
theorem indexAddr_sim (hT : TOk C) {t : TypeId} {x x' i i' : Value} (hx : VRel ρ x x') (hi : VRel ρ i i') (h : aIndexAddr C t x i st = some (.val v st')) :
  ∃ v', (Instr.indexAt t x' i').run C.P w = .ok v' w /\ VRel ρ v v' /\ st' = st := by
 unfold aIndexAddr at h
 split at h
 ·rename_i ti b o len cap kk k ht
  split at h
  ·rename_i elem hd
   split at h
   ·rename_i te hte
    split at h
    ·rename_i hlt
     obtain ⟨rfl, rfl⟩ := val_eq h
     have hlt' := Nat.blt_eq.mp hlt
     cases hi
     cases hx with
     | slice0 a a' => omega
     | @slice _ _ _ _ cap' l hl hc hb =>
      refine ⟨.pointer (some ⟨l.b, l.d + (o + k * te.size), none⟩), ?_, .ptr hl, rfl⟩
      have hcond : (0 : Int) <= Int.ofNat k /\ Int.ofNat k < (len : Int) := by simp; omega
      simp only [Instr.indexAt, asIntOf, Sem.run_bind, Sem.run_pure, run_und hT ht, hd, Result.andThen_ok, if_pos hcond, run_size hT hte, add_none, Nat.add_assoc]
      simp
    ·cases h
   ·cases h
  ·cases h
 ·rename_i ti b o kk k ht
  split at h
  ·rename_i len elem hd
   split at h
   ·rename_i te hte
    split at h
    ·rename_i hlt
     obtain ⟨rfl, rfl⟩ := val_eq h
     have hlt' := Nat.blt_eq.mp hlt
     cases hi
     obtain ⟨l, hl, rfl⟩ := ptr_inv hx
     refine ⟨.pointer (some ⟨l.b, l.d + (o + k * te.size), none⟩), ?_, .ptr hl, rfl⟩
     have hcond : (0 : Int) <= Int.ofNat k /\ Int.ofNat k < (len : Int) := by simp; omega
     simp only [Instr.indexAt, asIntOf, Sem.run_bind, Sem.run_pure, run_und hT ht, hd, Result.andThen_ok, Instr.sureAddr, if_pos hcond, run_size hT hte, add_none, Nat.add_assoc]
     simp
    ·cases h
   ·cases h
  ·cases h
 ·cases h
theorem index_sim (hT : TOk C) {t : TypeId} {x x' i i' : Value} (hx : VRel ρ x x') (hi : VRel ρ i i') (h : aIndex C t x i st = some (.val v st')) :
  ∃ v', (Instr.index t x' i').run C.P w = .ok v' w /\ VRel ρ v v' /\ st' = st := by
 unfold aIndex at h
 split at h
 ·rename_i ti s kk k ht
  split at h
  ·rename_i hd
   split at h
   ·rename_i b hb
    obtain ⟨rfl, rfl⟩ := val_eq h
    cases hi; cases hx
    rw [nth_eq, Array.getElem?_toList] at hb
    have hb' : s[k]? = some b := hb
    refine ⟨.int .u8 b.toNat, ?_, .int _ _, rfl⟩
    have h0 : (0 : Int) <= Int.ofNat k := by simp
    simp only [Instr.index, asIntOf, Sem.run_bind, Sem.run_pure, run_und hT ht, hd, Result.andThen_ok, if_pos h0]
    simp [hb']
   ·cases h
  ·cases h
 ·rename_i ti cs kk k ht
  split at h
  ·rename_i len elem hd
   split at h
   ·rename_i te hte
    split at h
    ·rename_i hlt
     split at h
     ·rename_i u hp
      obtain ⟨rfl, rfl⟩ := val_eq h
      cases hi
      cases hx with
      | agg hx =>
       have hlt' := Nat.blt_eq.mp hlt
       obtain ⟨u', e, r⟩ := part_sim (w := w) hT hx hp
       refine ⟨u', ?_, r, rfl⟩
       have hcond : (0 : Int) <= Int.ofNat k /\ Int.ofNat k < (len : Int) := by simp; omega
       simp only [Instr.index, asIntOf, Sem.run_bind, Sem.run_pure, run_und hT ht, hd, Result.andThen_ok, if_pos hcond, run_size hT hte]
       simpa using e
     ·cases h
    ·cases h
   ·cases h
  ·cases h
 ·cases h
theorem extract_sim {x x' : Value} {k : Nat} (hx : VRel ρ x x') (h : aExtract x k st = some (.val v st')) :
  ∃ v', (Instr.extract x' k).run C.P w = .ok v' w /\ VRel ρ v v' /\ st' = st := by
 unfold aExtract at h
 split at h
 ·cases hx with
  | tuple hx =>
   split at h
   ·rename_i u hu
    obtain ⟨rfl, rfl⟩ := val_eq h
    rw [nth_eq] at hu
    obtain ⟨u', e, r⟩ := hx.get hu
    rw [Array.getElem?_toList] at e
    exact ⟨u', by simp [Instr.extract, e], r, rfl⟩
   ·cases h
 ·cases h
theorem mkV_rel {ti : TI} {z : Value} (hz : ti.zero.all flat = true) (h : mkV ti.agg ti.zero = some z) (ρ : Ren) : VRel ρ z z := by
 unfold mkV at h
 split at h
 ·cases h; exact .agg (flats_rel hz ρ)
 ·split at h
  ·rename_i e; cases h; rw [e] at hz; exact flat_rel (by simpa using hz) ρ
  ·cases h
theorem typeAssert_sim (hT : TOk C) {x x' : Value} {xt t : TypeId} {ok : Bool} (hx : VRel ρ x x') (h : aTypeAssert C x t ok st = some (.val v st')) :
  ∃ v', (Instr.typeAssert x' xt t ok).run C.P w = .ok v' w /\ VRel ρ v v' /\ st' = st := by
 unfold aTypeAssert at h
 split at h
 ·cases h
 ·rename_i ti ht
  obtain ⟨z, hz, hzv⟩ := run_zero hT ht w
  have hzm := hzv.mk
  split at h
  ·cases h
  ·rename_i hd
   have hu := run_und hT ht w
   split at h
   ·rename_i u y
    cases hx with
    | @iface _ _ y' hy =>
    split at h
    ·rename_i he
     have := Nat.eq_of_beq_eq_true he
     subst this
     obtain ⟨rfl, rfl⟩ := val_eq h
     cases ok with
     | true =>
      refine ⟨.tuple #[y', .bool true], ?_, .tuple (.cons hy (.cons (.bool _) .nil)), rfl⟩
      unfold Instr.typeAssert
      rw [Sem.run_bind, hu, Result.andThen_ok]
      split <;> first | (rename_i e; exact absurd e (hd _)) | (rename_i e _; exact absurd e (hd _)) | skip
      all_goals first | rfl | (rename_i e; cases e) | simp_all
     | false =>
      refine ⟨y', ?_, hy, rfl⟩
      unfold Instr.typeAssert
      rw [Sem.run_bind, hu, Result.andThen_ok]
      split <;> first | (rename_i e; exact absurd e (hd _)) | (rename_i e _; exact absurd e (hd _)) | skip
      all_goals first | rfl | (rename_i e; cases e) | simp_all
    ·rename_i he
     have hne := Nat.ne_of_beq_eq_false he
     split at h
     ·rename_i z' hz'
      rw [hzm] at hz'
      cases hz'
      obtain ⟨rfl, rfl⟩ := val_eq h
      refine ⟨.tuple #[z, .bool false], ?_, .tuple (.cons (mkV_rel (hT.zflat _ _ ht) hzm ρ) (.cons (.bool _) .nil)), rfl⟩
      unfold Instr.typeAssert
      rw [Sem.run_bind, hu, Result.andThen_ok]
      split <;> first | (rename_i e; exact absurd e (hd _)) | (rename_i e _; exact absurd e (hd _)) | skip
      all_goals first | (rename_i e; cases e; rw [if_neg hne]; simp [hz]) | (rename_i e; cases e) | simp_all
     ·cases h
   ·cases hx
    split at h
    ·rename_i z' hz'
     rw [hzm] at hz'
     cases hz'
     obtain ⟨rfl, rfl⟩ := val_eq h
     refine ⟨.tuple #[z, .bool false], ?_, .tuple (.cons (mkV_rel (hT.zflat _ _ ht) hzm ρ) (.cons (.bool _) .nil)), rfl⟩
     unfold Instr.typeAssert
     rw [Sem.run_bind, hu, Result.andThen_ok]
     split <;> first | (rename_i e; exact absurd e (hd _)) | (rename_i e _; exact absurd e (hd _)) | skip
     all_goals first | (simp [hz]; done) | (rename_i e; cases e) | simp_all
    ·cases h
   ·cases h
end
open Go.RowKit (Below)
section
variable {C : Ctx} {w0 : World} {N0 : Nat} {G : Nat -> Prop} {ρ : Ren} {st st' : St} {w : World} {v : Value}
theorem WRel.drewN (h : WRel w0 N0 G ρ st w) (k : Nat) : WRel w0 N0 G ρ st { w with drawn := k } := h.junk ⟨rfl, rfl, rfl, Nat.le_refl _, fun _ _ => rfl⟩
theorem src_sim (h : WRel w0 N0 G ρ st w) {x x' : Value} (hx : VRel ρ x x') {es n : Nat} {xs : List Value} (hn : srcLen x = some n) (hc : srcCells st es n x = some xs) (P : Program) :
  ∃ new, (Builtin.lenOf x').run P w = .ok n w /\ (Builtin.firstCells es n x').run P w = .ok new w /\ VsRel ρ xs new.toList := by
 unfold srcLen at hn
 split at hn
 ·rename_i a len cap
  cases hn
  cases hx with
  | sliceNil => simp [srcCells] at hc; subst hc; exact ⟨#[], rfl, rfl, .nil⟩
  | slice0 a a' =>
   refine ⟨#[], rfl, ?_, ?_⟩
   ·simp [Builtin.firstCells, loadCells, loadCellsFrom]
   ·obtain ⟨b, o, sp⟩ := a
    cases sp with
    | some q => simp [srcCells] at hc
    | none =>
     simp only [srcCells, Nat.zero_mul] at hc
     have := readCells_length hc
     cases xs with
     | nil => exact .nil
     | cons y ys => simp at this
  | slice hl hcap hb =>
   simp only [srcCells] at hc
   obtain ⟨c', e, r⟩ := h.read hl hc P
   exact ⟨c', rfl, e, r⟩
 ·rename_i s
  cases hn
  cases hx
  simp only [srcCells, Option.some.injEq] at hc
  subst hc
  refine ⟨(s.extract 0 s.data.toList.length).data.map fun b => .int .u8 b.toNat, ?_, rfl, ?_⟩
  ·show Result.ok s.size w = _
   rw [size_data]
  ·have : (s.extract 0 s.data.toList.length) = s := by
    rw [<- size_data]; exact ByteArray.extract_zero_size
   rw [this]
   simp only [ofBytes, List.take_length, Array.toList_map]
   generalize s.data.toList = l
   induction l with
   | nil => exact .nil
   | cons x l ih => exact .cons (.int _ _) ih
 ·cases hn
theorem killed_rel (h : WRel w0 N0 G ρ st w) {es fam fo b o len n : Nat} {c : List Value} (hg : st.get b = some (.cells c es fam fo)) : WRel w0 N0 G ρ (killed st es fam fo b o len n c) w :=
 h.weaken killed_n (fun _ _ hx => killed_old hx) (killed_wf h.wf (h.wf.lt _ _ hg))
theorem appendTo_grow {es b o len cap n : Nat} {xs : List Value} (hcap : ¬ len + n <= cap) (ha : appendTo st es (some ⟨b, o, none⟩) len cap n xs = some (.val v st')) :
  ∃ c fam fo old, st.get b = some (.cells c es fam fo) /\ readCells st b o (len * es) = some old /\ v = .slice (some ⟨st.n, 0, none⟩) (len + n) (len + n) /\ st' = grown st es fam fo b o len n c old xs := by
 unfold appendTo at ha
 have hble : Nat.ble (len + n) cap = false := by
  cases hq : Nat.ble (len + n) cap with
  | false => rfl
  | true => exact absurd (Nat.le_of_ble_eq_true hq) hcap
 simp only [hble] at ha
 split at ha
 ·rename_i c es' fam fo hg
  split at ha
  ·rename_i old hes hr
   have := Nat.eq_of_beq_eq_true hes
   subst this
   obtain ⟨rfl, rfl⟩ := val_eq ha
   exact ⟨c, fam, fo, old, hg, hr, rfl, rfl⟩
  ·cases ha
 ·cases ha
theorem appendTo_inplace (h : WRel w0 N0 G ρ st w) {es len cap cap' n : Nat} {base base' : Option Addr} {xs : List Value} {new : Array Value} (P : Program) (hs : VRel ρ (.slice base len cap) (.slice base' len cap'))
  (hx : VsRel ρ xs new.toList) (hxl : xs.length = n * es) (hall : xs.all cellVal = true) (ha : appendTo st es base len cap n xs = some (.val v st')) (hcap : len + n <= cap') (hes : 0 < es) :
  ∃ ρ' w', ((match base' with | some a => storeCells (a.add (len * es)) new.toList | none => pure ()) : Sem Unit).run P w = .ok () w' /\ Kept w0 N0 G ρ st' v (.slice base' (len + n) cap') w' ρ' := by
 by_cases hle : len + n <= cap
 ·have hble : Nat.ble (len + n) cap = true := Nat.ble_eq_true_of_le hle
  unfold appendTo at ha
  simp only [hble] at ha
  cases hs with
  | sliceNil =>
   obtain ⟨rfl, rfl⟩ := val_eq ha
   have : n = 0 := by omega
   subst this
   exact ⟨ρ, w, rfl, Ren.le_refl _, h, .sliceNil⟩
  | slice0 a a' =>
   have hn : n = 0 := by omega
   subst hn
   have hxs : xs = [] := by cases xs with | nil => rfl | cons _ _ => simp at hxl
   subst hxs
   have hnew : new.toList = [] := by cases hq : new.toList with | nil => rfl | cons _ _ => rw [hq] at hx; cases hx
   obtain ⟨b, o, sp⟩ := a
   cases sp with
   | some q => cases ha
   | none => obtain ⟨rfl, rfl⟩ := val_eq ha; exact ⟨ρ, w, by rw [hnew]; rfl, Ren.le_refl _, h, .slice0 _ _⟩
  | @slice b o _ _ _ l hl hc hb =>
   cases xs with
   | nil =>
    obtain ⟨rfl, rfl⟩ := val_eq ha
    have hnew : new.toList = [] := by cases hq : new.toList with | nil => rfl | cons _ _ => rw [hq] at hx; cases hx
    exact ⟨ρ, w, by rw [hnew]; rfl, Ren.le_refl _, h, .slice hl hc hb⟩
   | cons y ys =>
    simp only at ha
    split at ha
    ·rename_i st1 hw
     obtain ⟨rfl, rfl⟩ := val_eq ha
     obtain ⟨w', hr, hrel, _⟩ := h.write hl hw hx P
     refine ⟨ρ, w', ?_, Ren.le_refl _, hrel, .slice hl hc hb⟩
     simp only [add_none, Nat.add_assoc]
     exact hr
    ·cases ha
 ·cases hs with
  | sliceNil => omega
  | slice0 a a' => omega
  | @slice b o _ _ _ l hl hc hb =>
   obtain ⟨c, fam, fo, old, hg, hr, rfl, rfl⟩ := appendTo_grow hle ha
   have hk := killed_rel (es := es) (o := o) (len := len) (n := n) h hg
   obtain ⟨c', elem, lo, hi, e, k⟩ := h.obj _ _ _ hl hg
   have hkes := k.es
   have hks := k.size
   have hlen := hx.length
   simp only [Array.length_toList] at hlen
   have hmul : (len + n) * es <= cap' * es := Nat.mul_le_mul_right _ hcap
   have hmul2 : (len + n) * es = len * es + n * es := Nat.add_mul _ _ _
   rw [hkes] at hb
   obtain ⟨w', hst, hs⟩ := run_storeCells (P := P) new.toList w l.b (l.d + o + len * es) 0 c' elem lo hi e (by simp; omega) (fun j h1 h2 => k.warm j (by simp at h2; omega)) (hx.allCell hall)
   obtain ⟨c'', e1, e2, e3⟩ := hs.here
   have hdom := h.dom _ _ hl
   have hbig := h.big
   have hsize := hs.size
   have hold := readCells_length hr
   obtain ⟨c0, es0, f0, p0, hg0, hle0, rfl⟩ := readCells_eq hr
   rw [hg] at hg0
   cases hg0
   refine ⟨ρ.add st.n ⟨l.b, l.d + o, es, l.sz⟩, w', ?_, ?_, ?_, ?_⟩
   ·simp only [add_none]; exact hst
   ·exact Ren.le_add h.none_at
   ·have hn : (killed st es fam fo b o len n c).n = st.n := killed_n
    have hext := hk.extend (st' := grown st es fam fo b o len n c ((c.drop o).take (len * es)) xs) (w' := w') (o := .cells ((c.drop o).take (len * es) ++ xs) es fam (fo + o)) (l := ⟨l.b, l.d + o, es, l.sz⟩)
     (by rw [hn]; rfl) (by intro x; rw [hn]; exact grown_get x) (grown_wf h.wf hg) ⟨hs.os, hs.tape, hs.output, by omega, fun x hx => hs.other x (by omega)⟩ (by simpa using hdom.2.1) (by simp; omega) ?_ ?_ ?_
    ·rw [hn] at hext; exact hext
    ·intro x lx ox hxl' hgx
     by_cases hlb : lx.b = l.b
     ·cases ox with
      | dead => trivial
      | cells cx ex fx px =>
       have hgx' := (killed_old hgx).resolve_left (by intro e; cases e)
       have hsame : fx = fam /\ l.d + px = lx.d + fo := by
        by_cases hxb : x = b
        ·subst hxb
         rw [hg] at hgx'
         cases hgx'
         rw [hl] at hxl'
         cases hxl'
         exact ⟨rfl, rfl⟩
        ·have := h.sep _ _ _ _ _ _ hl hxl' hlb.symm hg hgx' (fun e => hxb e.symm)
         exact ⟨this.1.symm, this.2⟩
       obtain ⟨rfl, hoff⟩ := hsame
       have hap := killed_apart h.wf hg hgx
       obtain ⟨cx', elemx, lox, hix, ex', kx⟩ := h.obj _ _ _ hxl' hgx'
       rw [hlb, e] at ex'
       cases ex'
       rw [hlb]
       refine ⟨c'', elem, lo, hi, e1, kx.es, by rw [e2]; exact kx.size, kx.fits, fun i v hi' => ?_, kx.warm⟩
       have hilt : i < cx.length := by
        rcases Nat.lt_or_ge i cx.length with hh | hh
        ·exact hh
        ·rw [List.getElem?_eq_none hh] at hi'; cases hi'
       obtain ⟨v', hv1, hv2⟩ := kx.cell _ _ hi'
       refine ⟨v', ?_, hv2⟩
       rw [e3, if_neg (by simp; omega)]
       exact hv1
      | _ =>
       have hgx' := (killed_old hgx).resolve_left (by intro e; cases e)
       have hxb : b ≠ x := by intro e'; subst e'; rw [hg] at hgx'; cases hgx'
       exact (h.sep _ _ _ _ _ _ hl hxl' hlb.symm hg hgx' hxb).elim
     ·rw [hs.other _ hlb]
      exact hk.obj _ _ _ hxl' hgx
    ·have hadd := Ren.le_add (l := ⟨l.b, l.d + o, es, l.sz⟩) hk.none_at
     refine ⟨c'', elem, lo, hi, e1, rfl, by simp; omega, ?_, fun i v hi' => ?_, k.warm⟩
     ·simp; omega
     ·have hilen : ((c.drop o).take (len * es)).length = len * es := by simp; omega
      show ∃ v', c''[l.d + o + i]? = some v' /\ _
      rw [e3]
      by_cases hi2 : i < len * es
      ·rw [List.getElem?_append_left (by omega), List.getElem?_take, if_pos hi2, List.getElem?_drop] at hi'
       obtain ⟨v', hv1, hv2⟩ := k.cell _ _ hi'
       refine ⟨v', ?_, hv2.mono hadd⟩
       rw [if_neg (by omega), <- hv1]
       congr 1
       omega
      ·rw [List.getElem?_append_right (by omega), hilen] at hi'
       obtain ⟨v', hv1, hv2⟩ := hx.get hi'
       have hlt : i - len * es < new.toList.length := by
        rcases Nat.lt_or_ge (i - len * es) new.toList.length with hh | hh
        ·exact hh
        ·rw [List.getElem?_eq_none hh] at hv1; cases hv1
       refine ⟨v', ?_, hv2.mono hadd⟩
       rw [if_pos (by omega), <- hv1]
       congr 1
       omega
    ·intro x lx ox hxl' hgx hlb
     cases ox with
     | dead => trivial
     | cells cx ex fx px =>
      have hgx' := (killed_old hgx).resolve_left (by intro e; cases e)
      show fx = fam /\ lx.d + (fo + o) = l.d + o + px
      by_cases hxb : x = b
      ·subst hxb
       rw [hg] at hgx'
       cases hgx'
       rw [hl] at hxl'
       cases hxl'
       exact ⟨rfl, by omega⟩
      ·have := h.sep _ _ _ _ _ _ hl hxl' hlb.symm hg hgx' (fun e => hxb e.symm)
       exact ⟨this.1.symm, by have := this.2; omega⟩
     | _ =>
      have hgx' := (killed_old hgx).resolve_left (by intro e; cases e)
      have hxb : b ≠ x := by intro e'; subst e'; rw [hg] at hgx'; cases hgx'
      exact (h.sep _ _ _ _ _ _ hl hxl' hlb.symm hg hgx' hxb).elim
   ·have hslice : VRel (ρ.add st.n ⟨l.b, l.d + o, es, l.sz⟩) (.slice (some ⟨st.n, 0, none⟩) (len + n) (len + n)) (.slice (some ⟨l.b, l.d + o + 0, none⟩) (len + n) cap') :=
     .slice (l := ⟨l.b, l.d + o, es, l.sz⟩) (Ren.add_same _ _ _) hcap (by simp; omega)
    exact hslice
theorem ble_not {a b : Nat} (h : ¬ a <= b) : Nat.ble a b = false := by
 cases hq : Nat.ble a b with
 | false => rfl
 | true => exact absurd (Nat.le_of_ble_eq_true hq) h
theorem appendTo_new (h : WRel w0 N0 G ρ st w) {es len cap cap' n : Nat} {base base' : Option Addr} {xs : List Value} {new : Array Value} (P : Program) (hs : VRel ρ (.slice base len cap) (.slice base' len cap'))
  (hx : VsRel ρ xs new.toList) (hxl : xs.length = n * es) (ha : appendTo st es base len cap n xs = some (.val v st')) (hcap : cap' < len + n) (elem : TypeId) :
  ∃ old, (Builtin.firstCells es len (.slice base' len cap')).run P w = .ok old w /\ ∀ (rest : Array Value) (newCap : Nat), len + n <= newCap -> rest.size = (newCap - (len + n)) * es ->
   ∃ ρ', Kept w0 N0 G ρ st' v (.slice (some ⟨w.heap.size, 0, none⟩) (len + n) newCap) { w with heap := w.heap.push (.cells (old ++ new ++ rest) elem) } ρ' := by
 have hlen := hx.length
 simp only [Array.length_toList] at hlen
 have hfin : ∀ (stK : St) (f p : Nat) (oldc : List Value) (old rest : Array Value) (newCap : Nat) (st2 : St), WRel w0 N0 G ρ stK w -> stK.n = st.n -> st2.n = st.n + 1 -> (∀ x, st2.get x = if x = st.n then some (.cells (oldc ++ xs) es f p) else stK.get x) -> WF st2 ->
   VsRel ρ oldc old.toList -> oldc.length = len * es -> len + n <= newCap -> rest.size = (newCap - (len + n)) * es ->
   ∃ ρ', Kept w0 N0 G ρ st2 (.slice (some ⟨st.n, 0, none⟩) (len + n) (len + n)) (.slice (some ⟨w.heap.size, 0, none⟩) (len + n) newCap) { w with heap := w.heap.push (.cells (old ++ new ++ rest) elem) } ρ' := by
  intro stK f p oldc old rest newCap st2 hk hkn hn2 hg2 hwf2 hold hol hnc hrs
  have hol' := hold.length
  simp only [Array.length_toList] at hol'
  have hmul : newCap * es = (len + n) * es + (newCap - (len + n)) * es := by rw [<- Nat.add_mul]; congr 1; omega
  have hmul2 : (len + n) * es = len * es + n * es := Nat.add_mul _ _ _
  have hsz : (old ++ new ++ rest).size = newCap * es := by simp; omega
  have hbig := h.big
  have hpush : ∀ k, k < w.heap.size -> (w.heap.push (.cells (old ++ new ++ rest) elem))[k]? = w.heap[k]? := fun k hk => by rw [Array.getElem?_push, if_neg (by omega)]
  have hext := hk.extend (st' := st2) (w' := { w with heap := w.heap.push (.cells (old ++ new ++ rest) elem) }) (o := .cells (oldc ++ xs) es f p) (l := ⟨w.heap.size, 0, es, newCap * es⟩)
   (by omega) (by intro x; rw [hkn]; exact hg2 x) hwf2 ⟨rfl, rfl, rfl, by simp, fun k hk => hpush k (by omega)⟩ hbig (by simp)
   (fun x lx ox h1 h2 => by rw [show ({ w with heap := w.heap.push (.cells (old ++ new ++ rest) elem) } : World).heap[lx.b]? = w.heap[lx.b]? from hpush _ (hk.dom _ _ h1).2.2]; exact hk.obj _ _ _ h1 h2)
   ?_ (fun x lx ox h1 h2 h3 => by have := (hk.dom _ _ h1).2.2; simp at h3; omega)
  ·rw [hkn] at hext
   refine ⟨_, Ren.le_add h.none_at, hext, ?_⟩
   exact .slice (l := ⟨w.heap.size, 0, es, newCap * es⟩) (Ren.add_same _ _ _) hnc (by simp)
  ·have hadd := Ren.le_add (l := ⟨w.heap.size, 0, es, newCap * es⟩) hk.none_at
   refine ⟨old ++ new ++ rest, elem, 0, 0, by simp, rfl, hsz, ?_, fun i v hi' => ?_, fun i _ hh => by omega⟩
   ·simp; omega
   ·obtain ⟨v', hv1, hv2⟩ := (hold.append hx).get hi'
    refine ⟨v', ?_, hv2.mono hadd⟩
    show (old ++ new ++ rest)[0 + i]? = some v'
    rw [Nat.zero_add]
    have hlt : i < (old.toList ++ new.toList).length := by
     rcases Nat.lt_or_ge i (old.toList ++ new.toList).length with hh | hh
     ·exact hh
     ·rw [List.getElem?_eq_none hh] at hv1; cases hv1
    rw [<- Array.getElem?_toList]
    simp only [Array.toList_append]
    rw [List.getElem?_append_left hlt]
    exact hv1
 have hcapabs : ¬ len + n <= cap := by cases hs <;> omega
 cases hs with
 | sliceNil =>
  unfold appendTo at ha
  have hble : Nat.ble (0 + n) 0 = false := ble_not hcapabs
  simp only [hble] at ha
  obtain ⟨rfl, rfl⟩ := val_eq ha
  refine ⟨#[], rfl, fun rest newCap h1 h2 => ?_⟩
  have := hfin st st.n 0 [] #[] rest newCap (st.new (.cells xs es st.n 0)) h rfl rfl (fun x => by simpa using St.get_new st _ x) (h.wf.new rfl) .nil (by simp) h1 h2
  simpa using this
 | slice0 a a' =>
  obtain ⟨b, o, sp⟩ := a
  cases sp with
  | some q =>
   unfold appendTo at ha
   have hble : Nat.ble (0 + n) 0 = false := ble_not hcapabs
   simp only [hble] at ha
   cases ha
  | none =>
   obtain ⟨c, fam, fo, oldc, hg, hr, rfl, rfl⟩ := appendTo_grow hcapabs ha
   have hol := readCells_length hr
   have hoc : oldc = [] := by cases oldc with | nil => rfl | cons _ _ => simp at hol
   subst hoc
   refine ⟨#[], by simp [Builtin.firstCells, loadCells, loadCellsFrom], fun rest newCap h1 h2 => ?_⟩
   exact hfin _ fam (fo + o) [] #[] rest newCap _ (killed_rel h hg) killed_n rfl grown_get (grown_wf h.wf hg) .nil (by simp) h1 h2
 | @slice b o _ _ _ l hl hc hb =>
  obtain ⟨c, fam, fo, oldc, hg, hr, rfl, rfl⟩ := appendTo_grow hcapabs ha
  obtain ⟨old, ho1, ho2⟩ := h.read hl hr P
  refine ⟨old, ho1, fun rest newCap h1 h2 => ?_⟩
  exact hfin _ fam (fo + o) oldc old rest newCap _ (killed_rel h hg) killed_n rfl grown_get (grown_wf h.wf hg) ho2 (readCells_length hr) h1 h2
theorem growBy_le (need : Nat) : ∀ (r c : Nat), c < 2 * need + 192 -> Builtin.growBy need r c < 2 * need + 193 := by
 intro r
 induction r with
 | zero => intro c h; simp [Builtin.growBy]; omega
 | succ r ih =>
  intro c h
  simp only [Builtin.growBy]
  split
  ·omega
  ·exact ih _ (by omega)
theorem nextcap_le {need c : Nat} (h : c < need) : Builtin.nextslicecap need c <= 2 * need + 192 := by
 unfold Builtin.nextslicecap
 split
 ·omega
 ·split
  ·omega
  ·have := growBy_le need 4 c (by omega); omega
theorem append_sim (hT : TOk C) (h : WRel w0 N0 G ρ st w) {argTypes : Array TypeId} {ty : TypeId} {args : List Value} {args' : Array Value} (hargs : VsRel ρ args args'.toList) (ha : aAppend C argTypes.toList args st = some (.val v st')) :
  SimV w0 N0 G ρ st' v ((Builtin.append_ argTypes ty args').run C.P w) := by
 obtain ⟨argTypes⟩ := argTypes
 obtain ⟨args'⟩ := args'
 unfold aAppend at ha
 split at ha
 ·rename_i ts tx s x hat
  simp only at hat hargs
  subst hat
  cases hargs with
  | @cons _ s' _ _ hs hargs =>
  cases hargs with
  | @cons _ x' _ _ hx hargs =>
  cases hargs
  split at ha
  ·rename_i ti txi base len cap hts htx
   split at ha
   ·rename_i elem hd
    split at ha
    ·rename_i te hte
     split at ha
     ·cases ha
     ·rename_i hnotint
      split at ha
      ·cases ha
      ·rename_i n hn
       split at ha
       ·cases ha
       ·rename_i xs hxs
        split at ha
        ·rename_i hcond
         simp only [Bool.and_eq_true] at hcond
         obtain ⟨⟨⟨⟨⟨c1, c2⟩, c3⟩, c4⟩, c5⟩, c6⟩ := hcond
         have hes := Nat.blt_eq.mp c1
         have hxl := Nat.eq_of_beq_eq_true c2
         have hby := Nat.le_of_ble_eq_true c4
         have hneed := Nat.le_of_ble_eq_true c5
         have hzl := Nat.eq_of_beq_eq_true c6
         unfold limit at hby hneed
         have hs2 : ∃ base' cap', s' = .slice base' len cap' := by cases hs <;> exact ⟨_, _, rfl⟩
         obtain ⟨base', cap', rfl⟩ := hs2
         have a0 : (⟨[ts, tx]⟩ : Array TypeId)[0]? = some ts := rfl
         have a1 : (⟨[ts, tx]⟩ : Array TypeId)[1]? = some tx := rfl
         have b0 : (⟨[.slice base' len cap', x']⟩ : Array Value)[0]? = some (.slice base' len cap') := rfl
         have b1 : (⟨[.slice base' len cap', x']⟩ : Array Value)[1]? = some x' := rfl
         by_cases hcap : len + n <= cap'
         ·obtain ⟨new, hl, hf, hr⟩ := src_sim h hx hn hxs C.P
          obtain ⟨ρ', w', hst, kept⟩ := appendTo_inplace h C.P hs hr hxl c3 ha hcap hes
          refine ⟨ρ', .slice base' (len + n) cap', w', ?_, kept⟩
          simp only [Builtin.append_, a0, a1, b0, b1]
          rw [rbo _ (run_und hT hts w)]
          simp only [hd]
          rw [rbo _ (run_size hT hte w), rbo _ (run_und hT htx w)]
          split
          ·rename_i k e; exact absurd e (hnotint k)
          ·rw [rbo _ (Sem.run_pure (P := C.P) (w := w) false)]
           simp only [Bool.false_eq_true, if_false]
           rw [rbo _ hl]
           simp only [if_pos hcap, Bool.not_false, if_true]
           rw [rbo _ hf]
           cases base' with
           | none => simp only [Sem.run_pure] at hst ⊢; cases hst; rfl
           | some a => simp only at hst ⊢; rw [rbo _ hst, Sem.run_pure]
         ·have hlt : cap' < len + n := by omega
          have hq : (Question.appendCap (len + n) cap' elem).forced = false := rfl
          obtain ⟨i, hi1, hi2⟩ := run_bytes hT hte w
          have hi1' : (typeInfo elem).run C.P { w with drawn := w.drawn + 1 } = .ok i { w with drawn := w.drawn + 1 } := by
           obtain ⟨i2, z2, h1, _⟩ := hT.info _ _ hte
           have e1 : (typeInfo elem).run C.P w = .ok i2 w := by simp [typeInfo, h1]
           rw [hi1] at e1
           cases e1
           simp [typeInfo, h1]
          have hW := h.drewN (w.drawn + 1)
          obtain ⟨new, hl', hf, hr⟩ := src_sim hW hx hn hxs C.P
          obtain ⟨new0, hl, _, _⟩ := src_sim h hx hn hxs C.P
          obtain ⟨old, ho, hk⟩ := appendTo_new hW C.P hs hr hxl ha hlt elem
          obtain ⟨z, hz, hzv⟩ := run_zero hT hte { w with drawn := w.drawn + 1 }
          have hzs : z.cells.size = te.size := by rw [<- hzl, <- hzv.cells]; simp
          generalize hnc : (Question.appendCap (len + n) cap' elem).cut (w.tape w.drawn (Question.appendCap (len + n) cap' elem)) = newCap
          have hncle : len + n <= newCap := by rw [<- hnc]; exact Nat.le_add_right _ _
          obtain ⟨ρ', kept⟩ := hk (Builtin.zeroCells z.cells (newCap - (len + n))) newCap hncle (by simp [Builtin.zeroCells, hzs])
          refine ⟨ρ', _, _, ?_, kept⟩
          have hm1 : ¬ (((len + n : Nat) : Int) > IntKind.i64.max /\ (false = true ∨ i.bytes = 0)) := by
           rintro ⟨h1, _⟩
           simp [IntKind.max, IntKind.signed, IntKind.bits] at h1
           omega
          have hm2 : ¬ (Builtin.nextslicecap (len + n) cap' * i.bytes > 2 ^ 48) := by
           have hc := nextcap_le hlt
           rw [hi2]
           have hpos : 1 <= len + n := by omega
           have hb1 : te.bytes <= 1099511627776 := Nat.le_trans (by have := Nat.mul_le_mul_right te.bytes hpos; omega) hby
           have h1 : Builtin.nextslicecap (len + n) cap' * te.bytes <= (2 * (len + n) + 192) * te.bytes := Nat.mul_le_mul_right _ hc
           have h2 : (2 * (len + n) + 192) * te.bytes = 2 * ((len + n) * te.bytes) + 192 * te.bytes := by rw [Nat.add_mul, Nat.mul_assoc]
           omega
          have hroom : ∀ (k : Nat) (w1 : World), (askRoom k).run C.P w1 = .ok () w1 := by
           intro k w1
           unfold askRoom
           split
           ·rfl
           ·rfl
          have hch : (choose (Question.appendCap (len + n) cap' elem)).run C.P w = .ok newCap { w with drawn := w.drawn + 1 } := by
           simp only [choose, Sem.run, hq, Bool.false_eq_true, if_false, hnc]
          simp only [Builtin.append_, a0, a1, b0, b1]
          rw [rbo _ (run_und hT hts w)]
          simp only [hd]
          rw [rbo _ (run_size hT hte w), rbo _ (run_und hT htx w)]
          split
          ·rename_i k e; exact absurd e (hnotint k)
          ·rw [rbo _ (Sem.run_pure (P := C.P) (w := w) false)]
           simp only [Bool.false_eq_true, if_false]
           rw [rbo _ hl]
           simp only [if_neg hcap, Bool.not_false, if_true]
           rw [rbo _ hi1]
           simp only [Bool.false_eq_true] at hm1
           simp only [if_neg hm1]
           rw [rbo _ hi1]
           simp only [if_neg hm2]
           rw [rbo _ hch, rbo _ hi1', rbo _ (hroom _ _), rbo _ ho, rbo _ hf, rbo _ hz, rbo _ (run_newRow _ _), Sem.run_pure]
        ·cases ha
    ·cases ha
   ·cases ha
  ·cases ha
 ·cases ha
end
open Go.RowKit (Below)
section
variable {C : Ctx} {w0 : World} {N0 : Nat} {G : Nat -> Prop} {ρ : Ren} {st st' : St} {w : World} {v : Value}
theorem ofBytes_rel (l : List UInt8) (ρ : Ren) : VsRel ρ (ofBytes l) (ofBytes l) := by
 induction l with
 | nil => exact .nil
 | cons x l ih => exact .cons (.int _ _) ih
theorem forIn_bytes {P : Program} {w : World} : ∀ {c c' : List Value} {l : List UInt8} (_ : VsRel ρ c c') (_ : toBytes c = some l) (s : ByteArray),
  Sem.run P (forIn (m := Sem) c' s (fun (x : Value) (r : ByteArray) => match x with | Value.int .u8 n => (pure (ForInStep.yield (r.push (UInt8.ofNat n.toNat))) : Sem (ForInStep ByteArray)) | _ => do (stuck "bytesToString: byte expected" : Sem PUnit); pure (ForInStep.yield r))) w = Result.ok ⟨⟨s.data.toList ++ l⟩⟩ w := by
 intro c
 induction c with
 | nil => intro c' l hc h s; cases hc; simp [toBytes] at h; subst h; simp
 | cons x c ih =>
  intro c' l hc h s
  cases hc with
  | @cons _ x' _ c'' hx hc =>
   simp only [toBytes] at h
   split at h
   ·rename_i b l' hb hl'
    cases h
    unfold toByte at hb
    split at hb
    ·rename_i n
     cases hb
     cases hx
     simp only [List.forIn_cons, Sem.run_bind, Sem.run_pure, Result.andThen_ok]
     rw [ih hc hl']
     simp
    ·cases hb
   ·cases h
theorem convert_sim (hT : TOk C) (h : WRel w0 N0 G ρ st w) {s d : TypeId} {x x' : Value} (hx : VRel ρ x x') (ha : aConvert C s d x st = some (.val v st')) : SimV w0 N0 G ρ st' v ((convert s d x').run C.P w) := by
 unfold aConvert at ha
 split at ha
 ·rename_i ts td hs hd
  have hus := run_und hT hs w
  have hud := run_und hT hd w
  split at ha
  ·rename_i k0 k k1 n e1 e2
   obtain ⟨rfl, rfl⟩ := val_eq ha
   cases hx
   refine ⟨ρ, _, w, ?_, Ren.le_refl _, h, .int _ _⟩
   unfold convert
   rw [rbo _ hus, rbo _ hud, e1, e2]
   rfl
  ·rename_i s0 e1 e2
   obtain ⟨rfl, rfl⟩ := val_eq ha
   cases hx
   refine ⟨ρ, _, w, ?_, Ren.le_refl _, h, .string _⟩
   unfold convert
   rw [rbo _ hus, rbo _ hud, e1, e2]
   rfl
  ·rename_i e s0 e1 e2
   split at ha
   ·rename_i te hte
    split at ha
    ·rename_i e3
     obtain ⟨rfl, rfl⟩ := val_eq ha
     cases hx
     have hue := run_und hT hte w
     rw [e3] at hue
     generalize hnc : (Question.appendCap s0.size 0 e).cut (w.tape w.drawn (Question.appendCap s0.size 0 e)) = newCap
     have hncle : s0.size <= newCap := by rw [<- hnc]; exact Nat.le_add_right _ _
     have hch : (choose (Question.appendCap s0.size 0 e)).run C.P w = .ok newCap { w with drawn := w.drawn + 1 } := by
      simp only [choose, Sem.run, Question.forced, Bool.false_eq_true, if_false, hnc]
     have hW := h.drewN (w.drawn + 1)
     generalize hcells : (s0.data.map fun b => (.int .u8 b.toNat : Value)) ++ Array.replicate (newCap - s0.size) (.int .u8 0 : Value) = cells
     have hsz : cells.size = newCap := by
      rw [<- hcells]; simp; omega
     have hl1 : s0.data.toList.length = s0.size := (size_data s0).symm
     refine ⟨ρ.add st.n ⟨w.heap.size, 0, 1, cells.size⟩, .slice (some ⟨w.heap.size, 0, none⟩) s0.size newCap, { w with drawn := w.drawn + 1, heap := w.heap.push (.cells cells e (newCap, newCap + 1)) }, ?_, Ren.le_add h.none_at, ?_, ?_⟩
     ·unfold convert
      rw [rbo _ hus, rbo _ hud, e1, e2]
      simp only
      rw [rbo _ hue]
      simp only [Conv.stringToBytes]
      rw [rbo _ hch]
      simp only [hcells]
      rw [rbo _ (run_newRow _ _)]
      have hmark : (markStringish ⟨w.heap.size, 0, none⟩).run C.P { w with drawn := w.drawn + 1, heap := w.heap.push (.cells cells e) } = .ok () { w with drawn := w.drawn + 1, heap := w.heap.push (.cells cells e (newCap, newCap + 1)) } := by
       simp only [markStringish, Go.shape, Sem.run_bind, Sem.run, World.shape?, Array.getElem?_push_size, Result.andThen_ok, freeze, World.freeze, hsz, if_neg Nat.one_ne_zero]
       congr 1
       congr 1
       apply Array.ext_getElem?
       intro i
       simp only [Array.getElem?_modify, Array.getElem?_push]
       by_cases hi : i = w.heap.size
       ·subst hi; simp
       ·rw [if_neg (fun e => hi e.symm), if_neg hi, if_neg hi]
      rw [rbo _ hmark]
      rfl
     ·refine hW.new rfl rfl ⟨cells, e, newCap, newCap + 1, rfl, rfl, rfl, ?_, fun i v hv => ?_, fun i hi hh => ?_⟩
      ·simp [ofBytes]; omega
      ·have hlt : i < s0.data.toList.length := by
        rcases Nat.lt_or_ge i (ofBytes s0.data.toList).length with hh | hh
        ·simpa [ofBytes] using hh
        ·rw [List.getElem?_eq_none hh] at hv; cases hv
       refine ⟨v, ?_, ?_⟩
       ·rw [<- hcells, Nat.zero_add, Array.getElem?_append_left (by simpa using hlt)]
        rw [<- Array.getElem?_toList, Array.toList_map]
        exact hv
       ·have := (ofBytes_rel s0.data.toList (ρ.add st.n ⟨w.heap.size, 0, 1, cells.size⟩)).get hv
        obtain ⟨v', e', r'⟩ := this
        rw [hv] at e'
        cases e'
        exact r'
      ·simp at hi; omega
     ·rw [hl1]
      refine .slice (l := ⟨w.heap.size, 0, 1, cells.size⟩) (Ren.add_same _ _ _) hncle (by simp; omega)
    ·cases ha
   ·cases ha
  ·rename_i e a len cap e1 e2
   split at ha
   ·rename_i te hte
    split at ha
    ·rename_i e3
     have hue := run_und hT hte w
     rw [e3] at hue
     split at ha
     ·obtain ⟨rfl, rfl⟩ := val_eq ha
      cases hx
      refine ⟨ρ, .string .empty, w, ?_, Ren.le_refl _, h, ?_⟩
      ·unfold convert
       rw [rbo _ hus, rbo _ hud, e1, e2]
       simp only
       rw [rbo _ hue]
       rfl
      ·exact .string _
     ·rename_i b o
      split at ha
      ·rename_i c hr
       split at ha
       ·rename_i l hl
        obtain ⟨rfl, rfl⟩ := val_eq ha
        have hmain : ∃ a' cap' c', x' = .slice (some a') len cap' /\ (loadCells a' len).run C.P w = .ok c' w /\ VsRel ρ c c'.toList := by
         cases hx with
         | slice0 _ a' =>
          refine ⟨a', 0, #[], rfl, by simp [loadCells, loadCellsFrom], ?_⟩
          have := readCells_length hr
          cases c with
          | nil => exact .nil
          | cons _ _ => simp at this
         | slice hl' hc hb =>
          obtain ⟨c', hc1, hc2⟩ := h.read hl' hr C.P
          exact ⟨_, _, c', rfl, hc1, hc2⟩
        obtain ⟨a', cap', c', rfl, hc1, hc2⟩ := hmain
        refine ⟨ρ, .string ⟨l.toArray⟩, w, ?_, Ren.le_refl _, h, .string _⟩
        unfold convert
        rw [rbo _ hus, rbo _ hud, e1, e2]
        simp only
        rw [rbo _ hue]
        simp only [Conv.bytesToString]
        rw [rbo _ hc1]
        have hfor := forIn_bytes (P := C.P) (w := w) hc2 hl ByteArray.empty
        rw [<- Array.forIn_toList]
        exact rbo (fun s => (pure (.string s) : Sem Value)) hfor
       ·cases ha
      ·cases ha
     ·cases ha
    ·cases ha
   ·cases ha
  ·cases ha
 ·cases ha
theorem makeSlice_sim (hT : TOk C) (h : WRel w0 N0 G ρ st w) {t : TypeId} {l c l' c' : Value} (hl : VRel ρ l l') (hc : VRel ρ c c') (ha : aMakeSlice C t l c st = some (.val v st')) :
  SimV w0 N0 G ρ st' v ((Instr.makeSlice t l' c').run C.P w) := by
 unfold aMakeSlice at ha
 split at ha
 ·rename_i ti l c ht
  split at ha
  ·rename_i elem hd
   split at ha
   ·rename_i te hte
    split at ha
    ·rename_i hcond
     simp only [Bool.and_eq_true] at hcond
     obtain ⟨⟨⟨⟨c1, c2⟩, c3⟩, c4⟩, c5⟩ := hcond
     have hle := Nat.le_of_ble_eq_true c1
     have hpos := Nat.blt_eq.mp c2
     have hby := Nat.le_of_ble_eq_true c3
     have hcc := Nat.le_of_ble_eq_true c4
     have hzl := Nat.eq_of_beq_eq_true c5
     obtain ⟨rfl, rfl⟩ := val_eq ha
     cases hl; cases hc
     obtain ⟨i, hi1, hi2⟩ := run_bytes hT hte w
     obtain ⟨z, hz, hzv⟩ := run_zero hT hte w
     have hzs : z.cells.size = te.size := by rw [<- hzl, <- hzv.cells]; simp
     have hwl : IntKind.i64.wrap (Int.ofNat l) = l := Go.IntWalk.i64_in _ (by simp; omega)
     have hwc : IntKind.i64.wrap (Int.ofNat c) = c := Go.IntWalk.i64_in _ (by simp; omega)
     have hzr : VsRel ρ (repl te.zero c) ((Array.range (c * te.size)).map (z.cells[· % z.cells.size]!)).toList := by
      rw [<- hzs, zeros_eq, hzv.cells]
      exact flats_rel (repl_flat (hT.zflat _ _ hte) c) ρ
     refine ⟨_, .slice (some ⟨w.heap.size, 0, none⟩) l c, _, ?_, Ren.le_add h.none_at, h.row elem hzr, ?_⟩
     ·simp only [Instr.makeSlice]
      rw [rbo _ (run_und hT ht w)]
      simp only [hd]
      rw [rbo _ (show (asInt (.int .i64 (Int.ofNat l))).run C.P w = .ok (Int.ofNat l) w from rfl), rbo _ (show (asInt (.int .i64 (Int.ofNat c))).run C.P w = .ok (Int.ofNat c) w from rfl), rbo _ hi1]
      simp only [hwl, hwc, hi2]
      have hmulI : ((te.bytes : Int) * (c : Int)) <= 1099511627776 := by
       have : ((c * te.bytes : Nat) : Int) <= 1099511627776 := by omega
       rw [Int.natCast_mul, Int.mul_comm] at this
       exact this
      have hno : ¬ ((decide ((c : Int) < 0) || decide ((te.bytes : Int) * (c : Int) > 2 ^ 48)) || decide ((l : Int) < 0) || decide ((l : Int) > (c : Int))) = true := by
       simp only [Bool.or_eq_true, decide_eq_true_eq, Int.reducePow]
       omega
      rw [if_neg hno]
      have hroom : (askRoom ((c : Int).toNat * te.bytes)).run C.P w = .ok () w := by
       unfold askRoom
       split <;> rfl
      rw [rbo _ hroom, rbo _ (run_size hT hte w)]
      simp only [Int.toNat_natCast]
      by_cases h0 : c * te.size = 0
      ·have hm0 : ∀ f : Nat -> Value, Array.map f (Array.range 0) = #[] := fun _ => Array.eq_empty_of_size_eq_zero (by simp)
       simp only [h0, if_true, hm0]
       rw [rbo _ (Sem.run_pure (P := C.P) (w := w) _), rbo _ (run_newRow _ _)]
       simp only [hm0, Sem.run_pure]
      ·simp only [if_neg h0]
       rw [rbo _ hz, rbo _ (Sem.run_pure (P := C.P) (w := w) _), rbo _ (run_newRow _ _)]
       rfl
     ·refine .slice (l := ⟨w.heap.size, 0, te.size, _⟩) (Ren.add_same _ _ _) (Nat.le_refl _) ?_
      simp
    ·cases ha
   ·cases ha
  ·cases ha
 ·cases ha
theorem optNat_bound {P : Program} {x x' : Option Value} {d n : Nat} (hx : (x = none /\ x' = none) ∨ ∃ y y', x = some y /\ x' = some y' /\ VRel ρ y y') (h : optNat x d = some n) :
  (x = none /\ x' = none /\ n = d) ∨ ∃ y', x' = some y' /\ x.isSome = true /\ ∀ (m : Nat) (code : BoundsCode) (w : World), n <= m -> (Instr.sliceBound y' m code).run P w = .ok n w := by
 rcases hx with ⟨rfl, rfl⟩ | ⟨y, y', rfl, rfl, hr⟩
 ·simp [optNat] at h; exact .inl ⟨rfl, rfl, h.symm⟩
 ·unfold optNat at h
  split at h
  ·rename_i e; cases e
  ·rename_i k m e
   cases e
   cases h
   cases hr
   refine .inr ⟨_, rfl, rfl, fun q code w hle => ?_⟩
   have hc : (0 : Int) <= Int.ofNat n /\ Int.ofNat n <= (q : Int) := by simp; omega
   simp only [Instr.sliceBound, asIntOf]
   rw [rbo _ (Sem.run_pure (P := P) (w := w) _)]
   simp only [if_pos hc]
   rfl
  ·cases h
theorem bounds_sim {P : Program} {lo hi mx lo' hi' mx' : Option Value} {isS : Bool} {len cap l h m : Nat}
  (hlo : (lo = none /\ lo' = none) ∨ ∃ y y', lo = some y /\ lo' = some y' /\ VRel ρ y y') (hhi : (hi = none /\ hi' = none) ∨ ∃ y y', hi = some y /\ hi' = some y' /\ VRel ρ y y')
  (hmx : (mx = none /\ mx' = none) ∨ ∃ y y', mx = some y /\ mx' = some y' /\ VRel ρ y y') {cap0 : Nat} (e1 : optNat lo 0 = some l) (e2 : optNat hi len = some h) (e3 : optNat mx cap0 = some m)
  (h1 : l <= h) (h2 : h <= m) (h3 : m <= cap0) (h4 : cap0 <= cap) (h5 : hi.isSome = true ∨ mx.isNone = true) :
  (Instr.sliceBounds isS len cap lo' hi' mx').run P w = .ok (l, h, if mx.isSome then m else cap) w := by
 unfold Instr.sliceBounds
 rcases optNat_bound (P := P) hmx e3 with ⟨rfl, rfl, rfl⟩ | ⟨ym, rfl, hms, hmr⟩
 ·rw [rbo _ (Sem.run_pure (P := P) (w := w) _)]
  rcases optNat_bound (P := P) hhi e2 with ⟨rfl, rfl, rfl⟩ | ⟨yh, rfl, hhs, hhr⟩
  ·rw [rbo _ (Sem.run_pure (P := P) (w := w) _)]
   rcases optNat_bound (P := P) hlo e1 with ⟨rfl, rfl, rfl⟩ | ⟨yl, rfl, hls, hlr⟩
   ·rw [rbo _ (Sem.run_pure (P := P) (w := w) _)]; rfl
   ·simp only; rw [rbo _ (hlr _ _ _ h1)]; rfl
  ·simp only
   rw [rbo _ (hhr _ _ _ (by omega))]
   rcases optNat_bound (P := P) hlo e1 with ⟨rfl, rfl, rfl⟩ | ⟨yl, rfl, hls, hlr⟩
   ·rw [rbo _ (Sem.run_pure (P := P) (w := w) _)]; rfl
   ·simp only; rw [rbo _ (hlr _ _ _ h1)]; rfl
 ·simp only
  rw [rbo _ (hmr _ _ _ (by omega))]
  rcases optNat_bound (P := P) hhi e2 with ⟨rfl, rfl, rfl⟩ | ⟨yh, rfl, hhs, hhr⟩
  ·exfalso
   rcases h5 with h5 | h5
   ·cases h5
   ·rw [Option.isNone_iff_eq_none] at h5; rw [h5] at hms; cases hms
  ·simp only
   rw [rbo _ (hhr _ _ _ h2)]
   rcases optNat_bound (P := P) hlo e1 with ⟨rfl, rfl, rfl⟩ | ⟨yl, rfl, hls, hlr⟩
   ·rw [rbo _ (Sem.run_pure (P := P) (w := w) _), hms]; rfl
   ·simp only; rw [rbo _ (hlr _ _ _ h1), hms]; rfl
end
open Go.RowKit (Below)
section
variable {C : Ctx} {w0 : World} {N0 : Nat} {G : Nat -> Prop} {ρ : Ren} {st st' : St} {w : World} {v : Value}
theorem strSub_eq (s : ByteArray) (l h : Nat) (h1 : l <= h) (h2 : h <= s.data.toList.length) : s.extract l h = strSub s l h := by
 apply ByteArray.ext
 rw [ByteArray.data_extract]
 apply Array.ext'
 simp only [strSub, Array.toList_extract, List.extract_eq_take_drop]
 rw [List.drop_take]
theorem optRel_cases {x x' : Option Value} (h : (x = none /\ x' = none) ∨ ∃ y y', x = some y /\ x' = some y' /\ VRel ρ y y') : x.isSome = x'.isSome := by
 rcases h with ⟨rfl, rfl⟩ | ⟨y, y', rfl, rfl, _⟩ <;> rfl
theorem slice_sim (hT : TOk C) (hw : WRel w0 N0 G ρ st w) {t : TypeId} {x x' : Value} {lo hi mx lo' hi' mx' : Option Value} (hx : VRel ρ x x')
  (hlo : (lo = none /\ lo' = none) ∨ ∃ y y', lo = some y /\ lo' = some y' /\ VRel ρ y y') (hhi : (hi = none /\ hi' = none) ∨ ∃ y y', hi = some y /\ hi' = some y' /\ VRel ρ y y')
  (hmx : (mx = none /\ mx' = none) ∨ ∃ y y', mx = some y /\ mx' = some y' /\ VRel ρ y y') (ha : aSlice C t x lo hi mx st = some (.val v st')) :
  ∃ v', (Instr.sliceAt t x' lo' hi' mx').run C.P w = .ok v' w /\ VRel ρ v v' /\ st' = st := by
 unfold aSlice at ha
 split at ha
 ·cases ha
 ·rename_i ti ht
  have hu := run_und hT ht w
  split at ha
  ·rename_i s hd
   split at ha
   ·rename_i l h e1 e2
    split at ha
    ·rename_i hcond
     simp only [Bool.and_eq_true] at hcond
     have h1 := Nat.le_of_ble_eq_true hcond.1
     have h2 := Nat.le_of_ble_eq_true hcond.2
     obtain ⟨rfl, rfl⟩ := val_eq ha
     cases hx
     have hm' : mx' = none := by rcases hmx with ⟨_, e⟩ | ⟨y, y', e, _, _⟩ <;> first | exact e | cases e
     subst hm'
     refine ⟨.string (s.extract l h), ?_, by rw [strSub_eq s l h h1 h2]; exact .string _, rfl⟩
     have hb := bounds_sim (w := w) (P := C.P) (isS := false) (cap := s.size) hlo hhi (.inl ⟨rfl, rfl⟩) (mx := none) (mx' := none) (cap0 := s.size) e1 e2 (m := s.size) rfl h1 (by rw [size_data]; exact h2) (Nat.le_refl _) (Nat.le_refl _) (.inr rfl)
     rw [size_data] at hb
     unfold Instr.sliceAt
     rw [rbo _ hu, hd]
     simp only [Instr.slice]
     rw [rbo _ hu, hd]
     simp only [Option.isSome_none, Bool.false_eq_true, if_false]
     rw [size_data, rbo _ hb]
     rfl
    ·cases ha
   ·cases ha
  ·rename_i elem a len cap hd
   split at ha
   ·rename_i te l h m hte e1 e2 e3
    split at ha
    ·cases ha
    ·rename_i hcond
     simp only [Bool.and_eq_true, Bool.or_eq_true] at hcond
     obtain ⟨⟨⟨c1, c2⟩, c3⟩, c4⟩ := hcond
     have h1 := Nat.le_of_ble_eq_true c1
     have h2 := Nat.le_of_ble_eq_true c2
     have h3 := Nat.le_of_ble_eq_true c3
     have hxs : ∃ a' cap', x' = .slice a' len cap' /\ cap <= cap' := by cases hx <;> first | exact ⟨_, _, rfl, Nat.le_refl _⟩ | exact ⟨_, _, rfl, by assumption⟩
     obtain ⟨a', cap', rfl, hcc⟩ := hxs
     have hb := bounds_sim (w := w) (P := C.P) (isS := true) (cap := cap') hlo hhi hmx e1 e2 e3 h1 h2 h3 hcc c4
     have hrun : ∀ (M : Nat), (if mx.isSome then m else cap') = M -> (Instr.sliceAt t (.slice a' len cap') lo' hi' mx').run C.P w = .ok (.slice (if M = l then a' else a'.map (·.add (l * te.size))) (h - l) (M - l)) w := by
      intro M hM
      rw [hM] at hb
      unfold Instr.sliceAt
      rw [rbo _ hu, hd]
      simp only [Instr.slice]
      rw [rbo _ hu, hd]
      simp only
      rw [rbo _ hb]
      simp only
      rw [rbo _ (run_size hT hte w)]
      rfl
     have hmle : ∀ M, (if mx.isSome then m else cap') = M -> m <= M /\ (mx.isSome = true -> M = m) /\ M <= cap' := by
      intro M hM
      split at hM
      ·subst hM; exact ⟨Nat.le_refl _, fun _ => rfl, by omega⟩
      ·rename_i hn
       subst hM
       exact ⟨by omega, fun e => absurd e hn, Nat.le_refl _⟩
     obtain ⟨M, hM⟩ : ∃ M, (if mx.isSome then m else cap') = M := ⟨_, rfl⟩
     obtain ⟨hm1, hm2, hm3⟩ := hmle M hM
     split at ha
     ·split at ha
      ·rename_i hc0
       obtain ⟨rfl, rfl⟩ := val_eq ha
       cases hx
       refine ⟨_, hrun M hM, ?_, rfl⟩
       have : h - l = 0 := by omega
       have hM0 : M - l = 0 := by omega
       rw [this, hM0]
       have hl0 : M = l := by omega
       rw [if_pos hl0]
       exact .sliceNil
      ·cases ha
     ·rename_i b o
      split at ha
      ·rename_i hc0
       have hc0 := Nat.eq_of_beq_eq_true hc0
       subst hc0
       obtain ⟨rfl, rfl⟩ := val_eq ha
       refine ⟨_, hrun M hM, ?_, rfl⟩
       have hl0 : l = 0 := by omega
       have hh0 : h = 0 := by omega
       subst hl0 hh0
       cases hx with
       | slice0 _ a' =>
        have : M = 0 := by omega
        subst this
        simp only [if_true, Nat.sub_zero]
        exact .slice0 _ _
       | @slice _ _ _ _ _ L hl hc hbb =>
        simp only [Nat.sub_zero, Nat.zero_mul]
        split
        ·rename_i e0; subst e0; exact .slice0 _ _
        ·simp only [Option.map_some, add_none, Nat.add_zero]
         exact .slice hl (Nat.zero_le _) (Nat.le_trans (Nat.add_le_add_left (Nat.mul_le_mul_right _ hm3) _) hbb)
      ·split at ha
       ·rename_i es hes
        split at ha
        ·rename_i hee
         have hee := Nat.eq_of_beq_eq_true hee
         subst hee
         obtain ⟨rfl, rfl⟩ := val_eq ha
         refine ⟨_, hrun M hM, ?_, rfl⟩
         cases hx with
         | slice0 _ a' =>
          have hl0 : l = 0 := by omega
          have : M = 0 := by omega
          subst this hl0
          have hh0 : h = 0 := by omega
          have hm0 : m = 0 := by omega
          subst hh0 hm0
          simp only [if_true]
          exact .slice0 _ _
         | @slice _ _ _ _ _ L hl hc hbb =>
          have hLes : L.es = te.size := by
           unfold esOf at hes
           split at hes
           ·rename_i c es f p hg
            cases hes
            obtain ⟨c', elem', lo1, hi1, e', k⟩ := hw.obj _ _ _ hl hg
            exact k.es
           ·cases hes
          split
          ·rename_i e0
           subst e0
           have hm0 : m - M = 0 := by omega
           have hh0 : h - M = 0 := by omega
           rw [hm0, hh0, Nat.sub_self]
           exact .slice0 _ _
          ·simp only [Option.map_some, add_none, Nat.add_assoc]
           refine .slice hl (by omega) ?_
           rw [hLes] at hbb ⊢
           have e1 : M * te.size = l * te.size + (M - l) * te.size := by rw [<- Nat.add_mul]; congr 1; omega
           have e2 : M * te.size <= cap' * te.size := Nat.mul_le_mul_right _ hm3
           omega
        ·cases ha
       ·cases ha
     ·cases ha
   ·cases ha
  ·rename_i n elem b o hd
   split at ha
   ·rename_i te l h hte e1 e2
    split at ha
    ·rename_i hcond
     simp only [Bool.and_eq_true] at hcond
     obtain ⟨⟨c1, c2⟩, c3⟩ := hcond
     have h1 := Nat.le_of_ble_eq_true c1
     have h2 := Nat.le_of_ble_eq_true c2
     obtain ⟨rfl, rfl⟩ := val_eq ha
     obtain ⟨L, hl, rfl⟩ := ptr_inv hx
     have hm' : mx' = none := by rcases hmx with ⟨_, e⟩ | ⟨y, y', e, _, _⟩ <;> first | exact e | cases e
     subst hm'
     have hb := bounds_sim (w := w) (P := C.P) (isS := false) (cap := n) hlo hhi (.inl ⟨rfl, rfl⟩) (mx := none) (mx' := none) (cap0 := n) e1 e2 (m := n) rfl h1 h2 (Nat.le_refl _) (Nat.le_refl _) (.inr rfl)
     refine ⟨.slice (some (if n = l then ⟨L.b, L.d + o, none⟩ else (⟨L.b, L.d + o, none⟩ : Addr).add (l * te.size))) (h - l) (n - l), ?_, ?_, rfl⟩
     ·unfold Instr.sliceAt
      rw [rbo _ hu, hd]
      simp only [Instr.sureAddr]
      rw [rbo _ (Sem.run_pure (P := C.P) (w := w) _), rbo _ hb]
      simp only [Option.isSome_none, Bool.false_eq_true, if_false]
      rw [rbo _ (run_size hT hte w)]
      rfl
     ·split at c3
      ·rename_i c es f p hg
       simp only [Bool.and_eq_true] at c3
       have hes := Nat.eq_of_beq_eq_true c3.1
       have hle := Nat.le_of_ble_eq_true c3.2
       obtain ⟨c', elem', lo1, hi1, e', k⟩ := hw.obj _ _ _ hl hg
       have hkes := k.es
       have hfit := k.fits
       split
       ·rename_i e0
        subst e0
        have hh0 : h - n = 0 := by omega
        rw [hh0, Nat.sub_self]
        exact .slice0 _ _
       ·rw [add_none, Nat.add_assoc]
        refine .slice hl (Nat.le_refl _) ?_
        rw [hkes, hes]
        have e1 : n * te.size = l * te.size + (n - l) * te.size := by rw [<- Nat.add_mul]; congr 1; omega
        omega
      ·cases c3
    ·cases ha
   ·cases ha
  ·cases ha
end
open Go.RowKit (Below)
section
variable {C : Ctx} {w0 : World} {N0 : Nat} {G : Nat -> Prop} {ρ : Ren} {st st' : St} {w : World} {v : Value}
theorem basicEq_same {d : TypeDesc} {a b a' b' : Value} {r : Bool} (ha : VRel ρ a a') (hb : VRel ρ b b') (h : basicEq d a b = some r) : Instr.sameNow d a' b' = some r := by
 unfold basicEq at h
 split at h
 ·cases ha; cases hb; cases h; rfl
 ·split at h
  ·rename_i hk
   have := kindEq_iff.1 hk
   subst this
   cases ha; cases hb; cases h
   simp [Instr.sameNow, intEq_iff]
  ·cases h
 ·rename_i a b
  cases ha; cases hb; cases h
  show some (a == b) = some (strEq a b)
  rw [beq_toListBytes, toList_data, toList_data, strEq, bytesEq_iff]
 ·cases h
theorem findK_sim {d : TypeDesc} {k k' : Value} (hk : VRel ρ k k') : ∀ {es es' : List MapEntry} {i : Nat} {r : Option (Nat × Value)}, EsRel ρ es es' -> findK d k es i = some r ->
  (r = none /\ Instr.findNow d k' es' i = some none) ∨ ∃ j x x', r = some (j, x) /\ Instr.findNow d k' es' i = some (some (j, x')) /\ VRel ρ x x' /\ i <= j /\ j < i + es.length := by
 intro es
 induction es with
 | nil =>
  intro es' i r he h
  cases es' with
  | nil => simp [findK] at h; subst h; exact .inl ⟨rfl, rfl⟩
  | cons _ _ => exact he.elim
 | cons e es ih =>
  intro es' i r he h
  cases es' with
  | nil => exact he.elim
  | cons e' es' =>
   obtain ⟨h1, h2, h3, h4⟩ := he
   simp only [findK] at h
   split at h
   ·rename_i hb
    cases h
    refine .inr ⟨i, e.val, e'.val, rfl, ?_, h2, Nat.le_refl _, by simp⟩
    simp only [Instr.findNow, basicEq_same hk h1 hb]
   ·rename_i hb
    rcases ih h4 h with ⟨r1, r2⟩ | ⟨j, x, x', r1, r2, r3, r4, r5⟩
    ·exact .inl ⟨r1, by simp only [Instr.findNow, basicEq_same hk h1 hb]; exact r2⟩
    ·exact .inr ⟨j, x, x', r1, by simp only [Instr.findNow, basicEq_same hk h1 hb]; exact r2, r3, by omega, by simp only [List.length_cons]; omega⟩
   ·cases h
theorem EsRel.length : ∀ {a b : List MapEntry}, EsRel ρ a b -> a.length = b.length
 | [], [], _ => rfl
 | _ :: _, _ :: _, ⟨_, _, _, r⟩ => by simp [EsRel.length r]
 | [], _ :: _, k => k.elim
 | _ :: _, [], k => k.elim
theorem checkKey_basic (hT : TOk C) {t : TypeId} {tk : TI} (ht : C.tt.get t = some tk) (hb : basicKey tk.desc = true) (e : Bool) (n : Nat) (k : Value) : (Instr.checkKey e (n + 1) t k).run C.P w = .ok () w := by
 have hu := run_und hT ht w
 unfold Instr.checkKey
 rw [rbo _ hu]
 cases hd : tk.desc <;> rw [hd] at hb <;> first | (simp [basicKey] at hb; done) | rfl
theorem run_getObj {P : Program} {w : World} {r : Nat} {o : Obj} (h : w.heap[r]? = some o) (hc : ∀ c e f, o ≠ .cells c e f) : (getObj r).run P w = .ok o w := by
 simp only [getObj, Sem.run, h]
theorem findKey_run (hT : TOk C) {t : TypeId} {tk : TI} (ht : C.tt.get t = some tk) {k : Value} {es : List MapEntry} {r : Option (Nat × Value)} (h : Instr.findNow tk.desc k es 0 = some r) : (Instr.findKey t k es).run C.P w = .ok r w := by
 unfold Instr.findKey
 rw [rbo _ (run_und hT ht w), h]
 rfl
theorem lookup_sim (hT : TOk C) (hw : WRel w0 N0 G ρ st w) {t : TypeId} {x x' k k' : Value} {ok : Bool} (hx : VRel ρ x x') (hk : VRel ρ k k') (ha : aLookup C t x k ok st = some (.val v st')) :
  ∃ v', (Instr.lookup t x' k' ok).run C.P w = .ok v' w /\ VRel ρ v v' /\ st' = st := by
 unfold aLookup at ha
 split at ha
 ·cases ha
 ·rename_i ti ht
  split at ha
  ·rename_i kt et hd
   split at ha
   ·rename_i tk te htk hte
    split at ha
    ·cases ha
    ·rename_i hbk
     split at ha
     ·cases ha
     ·rename_i es hes
      obtain ⟨z, hz, hzv⟩ := run_zero hT hte w
      have hzm := hzv.mk
      have htail : ∀ (es' : Array MapEntry) (K : Option (Nat × Value)), Instr.findNow tk.desc k' es'.toList 0 = some K -> ∀ e : Bool, (do
        Instr.checkKey e 10000 kt k'
        match <- Instr.findKey kt k' es'.toList with
        | some (_, v) => do
         let x <- pure (v, true)
         pure (if ok = true then Value.tuple #[x.1, Value.bool x.2] else x.1)
        | none => do
         let z <- zeroValue et
         let x <- pure (z, false)
         pure (if ok = true then Value.tuple #[x.1, Value.bool x.2] else x.1) : Sem Value).run C.P w = .ok (match K with | some (_, u) => (if ok = true then .tuple #[u, .bool true] else u) | none => (if ok = true then .tuple #[z, .bool false] else z)) w := by
       intro es' K hK e
       rw [rbo _ (checkKey_basic hT htk hbk _ 9999 _), rbo _ (findKey_run hT htk hK)]
       cases K with
       | none => simp only; rw [rbo _ hz]; rfl
       | some q => rfl
      have hmap : ∃ es' : Array MapEntry, EsRel ρ es es'.toList /\ ∀ K, Instr.findNow tk.desc k' es'.toList 0 = some K ->
        (Instr.lookup t x' k' ok).run C.P w = .ok (match K with | some (_, u) => (if ok = true then .tuple #[u, .bool true] else u) | none => (if ok = true then .tuple #[z, .bool false] else z)) w := by
       split at hes
       ·cases hes
        cases hx
        refine ⟨#[], trivial, fun K hK => ?_⟩
        unfold Instr.lookup
        rw [rbo _ (run_und hT ht w)]
        simp only [hd]
        rw [rbo _ (Sem.run_pure (P := C.P) (w := w) _)]
        exact htail #[] K hK _
       ·rename_i r
        split at hes
        ·rename_i es0 clock hg
         cases hes
         cases hx with
         | map hl =>
          obtain ⟨es', e, hr⟩ := hw.obj _ _ _ hl hg
          refine ⟨es', hr, fun K hK => ?_⟩
          unfold Instr.lookup
          rw [rbo _ (run_und hT ht w)]
          simp only [hd]
          rw [rbo _ (run_getObj e (by intro _ _ _ h; cases h))]
          simp only
          rw [rbo _ (Sem.run_pure (P := C.P) (w := w) _)]
          exact htail es' K hK _
        ·cases hes
       ·cases hes
      obtain ⟨es', hrel, hrun⟩ := hmap
      split at ha
      ·cases ha
      ·rename_i j y hf
       obtain ⟨rfl, rfl⟩ := val_eq ha
       rcases findK_sim hk hrel hf with ⟨e, _⟩ | ⟨j', u, u', e, hf', hr, _⟩
       ·cases e
       ·cases e
        refine ⟨_, hrun _ hf', ?_, rfl⟩
        cases ok
        ·exact hr
        ·exact .tuple (.cons hr (.cons (.bool _) .nil))
      ·rename_i hf
       split at ha
       ·cases ha
       ·rename_i z' hz'
        rw [hzm] at hz'
        cases hz'
        obtain ⟨rfl, rfl⟩ := val_eq ha
        rcases findK_sim hk hrel hf with ⟨_, hf'⟩ | ⟨j', u, u', e, _⟩
        ·refine ⟨_, hrun _ hf', ?_, rfl⟩
         have hzz := mkV_rel (hT.zflat _ _ hte) hzm ρ
         cases ok
         ·exact hzz
         ·exact .tuple (.cons hzz (.cons (.bool _) .nil))
        ·cases e
   ·cases ha
  ·cases ha
theorem WRel.putMap (h : WRel w0 N0 G ρ st w) {r : Nat} {l : Loc} {es : List MapEntry} {ck : Nat} {es2 : List MapEntry} {es2' : Array MapEntry} {ck2 : Nat} (hl : ρ r = some l) (hg : st.get r = some (.map es ck)) (hr : EsRel ρ es2 es2'.toList) :
  WRel w0 N0 G ρ (st.put r (.map es2 ck2)) { w with heap := w.heap.setIfInBounds l.b (.map es2' ck2) } := by
 have hdom := h.dom _ _ hl
 have hother : ∀ k, k ≠ l.b -> (w.heap.setIfInBounds l.b (.map es2' ck2))[k]? = w.heap[k]? := fun k hk => Array.getElem?_setIfInBounds_ne (fun e => hk e.symm)
 have hhere : (w.heap.setIfInBounds l.b (.map es2' ck2))[l.b]? = some (.map es2' ck2) := Array.getElem?_setIfInBounds_self_of_lt hdom.2.2
 have hone : ∀ x lx ox, ρ x = some lx -> (st.put r (.map es2 ck2)).get x = some ox -> lx.b = l.b -> x = r ∨ ox = .dead := by
  intro x lx ox hx hgx hlb
  by_cases hxr : x = r
  ·exact .inl hxr
  ·rw [St.get_put, if_neg hxr] at hgx
   have := h.sep _ _ _ _ _ _ hl hx hlb.symm hg hgx (fun e => hxr e.symm)
   cases ox <;> first | exact .inr rfl | exact this.elim
 refine ⟨⟨fun b o hb => ?_, fun b c e f p hb => ?_, h.wf.fml⟩, ?_, by simpa using h.big, h.gho, fun b l' hb => by have := h.dom b l' hb; exact ⟨this.1, this.2.1, by simpa using this.2.2⟩, fun b l' o hb hgb => ?_, fun b b' l1 l2 o1 o2 h1 h2 he g1 g2 hne => ?_⟩
 ·rw [St.get_put] at hb
  split at hb
  ·rename_i e; subst e; exact h.wf.lt _ _ hg
  ·exact h.wf.lt _ _ hb
 ·rw [St.get_put] at hb
  split at hb
  ·cases hb
  ·exact h.wf.fam _ _ _ _ _ hb
 ·exact h.below.trans ⟨rfl, rfl, rfl, by simp, fun k hk => hother k (by omega)⟩
 ·show ORel ρ l' o (w.heap.setIfInBounds l.b (.map es2' ck2))[l'.b]?
  by_cases hlb : l'.b = l.b
  ·rcases hone _ _ _ hb hgb hlb with rfl | rfl
   ·rw [St.get_put, if_pos rfl] at hgb
    cases hgb
    rw [hlb, hhere]
    exact ⟨es2', rfl, hr⟩
   ·trivial
  ·rw [hother _ hlb]
   rw [St.get_put] at hgb
   split at hgb
   ·rename_i e; subst e; rw [hl] at hb; cases hb; exact absurd rfl hlb
   ·exact h.obj _ _ _ hb hgb
 ·by_cases hlb : l1.b = l.b
  ·rcases hone _ _ _ h1 g1 hlb with e1 | e1
   ·rcases hone _ _ _ h2 g2 (he ▸ hlb) with e2 | e2
    ·exact absurd (e1.trans e2.symm) hne
    ·subst e2; cases o1 <;> trivial
   ·subst e1; cases o2 <;> trivial
  ·have hb1 : b ≠ r := fun e => by subst e; rw [hl] at h1; cases h1; exact hlb rfl
   have hb2 : b' ≠ r := fun e => by subst e; rw [hl] at h2; cases h2; exact hlb he
   rw [St.get_put, if_neg hb1] at g1
   rw [St.get_put, if_neg hb2] at g2
   exact h.sep _ _ _ _ _ _ h1 h2 he g1 g2 hne
theorem mapSet_rel {k k' y y' : Value} (hk : VRel ρ k k') (hy : VRel ρ y y') : ∀ {es : List MapEntry} {es' : List MapEntry} {i : Nat}, EsRel ρ es es' -> i < es.length ->
  EsRel ρ (mapSet es i k y) (es'.modify i fun e => { e with key := k', val := y' }) := by
 intro es
 induction es with
 | nil => intro es' i h hi; simp at hi
 | cons e es ih =>
  intro es' i h hi
  cases es' with
  | nil => exact h.elim
  | cons e' es' =>
   obtain ⟨h1, h2, h3, h4⟩ := h
   cases i with
   | zero => simp only [mapSet, List.modify_zero_cons]; exact ⟨hk, hy, h3, h4⟩
   | succ i => simp only [mapSet, List.modify_succ_cons]; exact ⟨h1, h2, h3, ih h4 (by simpa using hi)⟩
theorem EsRel.append {a a' b b' : List MapEntry} (h : EsRel ρ a a') (k : EsRel ρ b b') : EsRel ρ (a ++ b) (a' ++ b') := by
 induction a generalizing a' with
 | nil => cases a' with | nil => exact k | cons _ _ => exact h.elim
 | cons e a ih => cases a' with
  | nil => exact h.elim
  | cons e' a' => obtain ⟨h1, h2, h3, h4⟩ := h; exact ⟨h1, h2, h3, ih h4⟩
theorem run_setObj {P : Program} {w : World} {r : Nat} {o o2 : Obj} (h : w.heap[r]? = some o) (hc : ∀ c e f, o ≠ .cells c e f) : (setObj r o2).run P w = .ok () { w with heap := w.heap.setIfInBounds r o2 } := by
 simp only [setObj, Sem.run, h]
theorem sameNow_bits {d : TypeDesc} {a b : Value} {es : List MapEntry} {i j : Nat} {x : Value} (h : Instr.findNow d a es i = some (some (j, x))) : ∃ e, es[j - i]? = some e /\ Instr.sameNow d a e.key = some true /\ i <= j := by
 induction es generalizing i with
 | nil => simp [Instr.findNow] at h
 | cons e es ih =>
  simp only [Instr.findNow] at h
  split at h
  ·rename_i hs
   simp only [Option.some.injEq, Prod.mk.injEq] at h
   obtain ⟨rfl, _⟩ := h
   exact ⟨e, by simp, hs, Nat.le_refl _⟩
  ·obtain ⟨e2, h1, h2, h3⟩ := ih h
   refine ⟨e2, ?_, h2, by omega⟩
   rw [show j - i = (j - (i + 1)) + 1 from by omega]
   simpa using h1
  ·cases h
theorem keyStays {d : TypeDesc} {a b : Value} (h : Instr.sameNow d a b = some true) (P : Program) (w : World) : (Instr.keyThatStays b a).run P w = .ok a w := by
 have hs : Instr.sameBits 10000 b a = true := by
  unfold Instr.sameNow at h
  split at h
  ·split at h
   ·rename_i hk
    subst hk
    simp only [Option.some.injEq, beq_iff_eq] at h
    subst h
    show (_ == _ && _ == _) = true
    simp
   ·cases h
  ·rename_i a b
   simp only [Option.some.injEq] at h
   rw [beq_toListBytes, beq_iff_eq] at h
   show (b == a) = true
   rw [beq_toListBytes, beq_iff_eq]
   exact h.symm
  ·simp only [Option.some.injEq, beq_iff_eq] at h
   subst h
   show (_ == _) = true
   simp
  ·cases h
 unfold Instr.keyThatStays
 rw [if_pos hs]
 rfl
theorem mapUpdate_sim (hT : TOk C) (hw : WRel w0 N0 G ρ st w) {t : TypeId} {m m' k k' y y' : Value} (hm : VRel ρ m m') (hk : VRel ρ k k') (hy : VRel ρ y y') (ha : aMapUpdate C t m k y st = some (.val v st')) :
  ∃ w', (Instr.mapUpdate t m' k' y').run C.P w = .ok () w' /\ WRel w0 N0 G ρ st' w' /\ v = undefV /\ st'.n = st.n := by
 unfold aMapUpdate at ha
 split at ha
 ·rename_i ti r ht
  split at ha
  ·rename_i kt et hd
   split at ha
   ·rename_i tk es clock htk hg
    cases hm with
    | @map _ l hl =>
    obtain ⟨es', e, hr⟩ := hw.obj _ _ _ hl hg
    split at ha
    ·cases ha
    ·rename_i hbk
     have hpre : ∀ (K : Option (Nat × Value)), Instr.findNow tk.desc k' es'.toList 0 = some K -> (Instr.mapUpdate t (.map (some l.b)) k' y').run C.P w = ((match K with
       | some (i, _) => do
        let key <- Instr.keyThatStays (((es'[i]?).map (·.key)).getD k') k'
        setObj l.b (.map (es'.modify i fun e => { e with key, val := y' }) clock)
       | none => setObj l.b (.map (es'.push { key := k', val := y', born := clock }) (clock + 1))) : Sem Unit).run C.P w := by
      intro K hK
      unfold Instr.mapUpdate
      rw [rbo _ (run_und hT ht w)]
      simp only [hd]
      rw [rbo _ (run_getObj e (by intro _ _ _ h; cases h))]
      simp only
      rw [rbo _ (checkKey_basic hT htk hbk _ 9999 _), rbo _ (findKey_run hT htk hK)]
      cases K <;> rfl
     split at ha
     ·cases ha
     ·rename_i i x hf
      obtain ⟨rfl, rfl⟩ := val_eq ha
      rcases findK_sim hk hr hf with ⟨e0, _⟩ | ⟨j, u, u', e0, hf', hru, _, hlt⟩
      ·cases e0
      ·cases e0
       obtain ⟨e2, h1, h2, _⟩ := sameNow_bits (b := k') hf'
       rw [Nat.sub_zero, Array.getElem?_toList] at h1
       refine ⟨{ w with heap := w.heap.setIfInBounds l.b (.map (es'.modify i fun e => { e with key := k', val := y' }) clock) }, ?_, ?_, rfl, rfl⟩
       ·rw [hpre _ hf']
        simp only [h1, Option.map_some, Option.getD_some]
        rw [rbo _ (keyStays h2 C.P w)]
        exact run_setObj e (by intro _ _ _ h; cases h)
       ·refine hw.putMap hl hg ?_
        rw [Array.toList_modify]
        exact mapSet_rel hk hy hr (by omega)
     ·rename_i hf
      obtain ⟨rfl, rfl⟩ := val_eq ha
      rcases findK_sim hk hr hf with ⟨_, hf'⟩ | ⟨j, u, u', e0, _⟩
      ·refine ⟨{ w with heap := w.heap.setIfInBounds l.b (.map (es'.push { key := k', val := y', born := clock }) (clock + 1)) }, ?_, ?_, rfl, rfl⟩
       ·rw [hpre _ hf']
        exact run_setObj e (by intro _ _ _ h; cases h)
       ·refine hw.putMap hl hg ?_
        rw [Array.toList_push]
        exact hr.append ⟨hk, hy, rfl, trivial⟩
      ·cases e0
   ·cases ha
  ·cases ha
 ·cases ha
end
open Go.RowKit (Below)
def EvRel (ρ : Ren) (ev : Operand -> Option Value) (ev' : Operand -> Value) : Prop := ∀ x v, ev x = some v -> VRel ρ v (ev' x)
def TgRel (ρ : Ren) (t t' : Target) : Prop :=
 match t, t' with
 | .collected r, .collected r' => ∃ l, ρ r = some l /\ r' = l.b
 | .fn (.func f) c, .fn (.func f') c' => f = f' /\ VsRel ρ c.toList c'.toList
 | _, _ => False
structure DRel (ρ : Ren) (d d' : Deferred) : Prop where
 target : TgRel ρ d.target d'.target
 args : VsRel ρ d.args.toList d'.args.toList
structure FOk (C : Ctx) : Prop where
 fn : ∀ f fi, C.ff.get f = some fi -> ∃ fn, C.P.funcs[f]? = some fn /\ fn.body = some fi.body /\ fn.ntmps = fi.nt /\ fn.results.toList = fi.res /\ (fn.name == "runtime.NumGoroutine") = false
def ExtOk (C : Ctx) : Prop := ∀ f args v, C.ext f args = some v -> ∀ (ρ : Ren) (args' : Array Value) (w : World), VsRel ρ args args'.toList -> (callFunc f args').run C.P w = .ok (.value v) w /\ VRel ρ v v
def SimAR (C : Ctx) (w0 : World) (N0 : Nat) (G : Nat -> Prop) (ρ : Ren) (st : St) (w : World) (ar : AR) (r : Result Next) : Prop :=
 match ar with
 | .val v st' => ∃ ρ' v' w', (r = .ok (.value v') w' ∨ (r = .ok .skip w' /\ v' = undef)) /\ Kept w0 N0 G ρ st' v v' w' ρ'
 | .pan v st' => st' = st /\ ∃ v', r = .halt (.panic v') w /\ VRel ρ v v'
 | .enter f args => ∃ args', r = .ok (.enter f args') w /\ VsRel ρ args args'.toList
 | .yield l args => ∃ L args', ρ l = some L /\ VsRel ρ args args'.toList /\ r = (Instr.yield L.b args').run C.P w
 | .recover => r = .ok .recover w
 | .defer d => ∃ d', r = .ok (.defer d') w /\ DRel ρ d d'
section
variable {C : Ctx} {w0 : World} {N0 : Nat} {G : Nat -> Prop} {ρ : Ren} {st st' : St} {w : World} {v : Value}
theorem copy_sim (hT : TOk C) (h : WRel w0 N0 G ρ st w) {argTypes : Array TypeId} {ty : TypeId} {args : List Value} {args' : Array Value} (hargs : VsRel ρ args args'.toList) (ha : aCopy C argTypes.toList args st = some (.val v st')) :
  SimV w0 N0 G ρ st' v ((Builtin.copy_ argTypes ty args').run C.P w) := by
 obtain ⟨argTypes⟩ := argTypes
 obtain ⟨args'⟩ := args'
 unfold aCopy at ha
 split at ha
 ·rename_i ts rest base dLen dCap src hat
  simp only at hat hargs
  subst hat
  cases hargs with
  | @cons _ s' _ _ hs hargs =>
  cases hargs with
  | @cons _ x' _ _ hx hargs =>
  cases hargs
  split at ha
  ·rename_i ti hts
   split at ha
   ·rename_i elem hd
    split at ha
    ·rename_i te sl hte hsl
     split at ha
     ·rename_i xs hxs
      have hs2 : ∃ base' cap', s' = .slice base' dLen cap' := by cases hs <;> exact ⟨_, _, rfl⟩
      obtain ⟨base', cap', rfl⟩ := hs2
      have a0 : (⟨ts :: rest⟩ : Array TypeId)[0]? = some ts := rfl
      have b0 : (⟨[.slice base' dLen cap', x']⟩ : Array Value)[0]? = some (.slice base' dLen cap') := rfl
      have b1 : (⟨[.slice base' dLen cap', x']⟩ : Array Value)[1]? = some x' := rfl
      have hlen : (Builtin.lenOf x').run C.P w = .ok sl w := by
       unfold srcLen at hsl
       split at hsl
       ·cases hsl; cases hx <;> rfl
       ·cases hsl
        cases hx
        rename_i s
        show Result.ok s.size w = _
        rw [size_data]
       ·cases hsl
      have hfirst : ∃ new, (Builtin.firstCells te.size (Nat.min sl dLen) x').run C.P w = .ok new w /\ VsRel ρ xs new.toList := by
       unfold srcCells at hxs
       split at hxs
       ·cases hxs; cases hx; exact ⟨#[], rfl, .nil⟩
       ·rename_i b o l c
        cases hx with
        | slice0 _ a' =>
         simp only [srcLen, Option.some.injEq] at hsl
         subst hsl
         have hm : Nat.min 0 dLen = 0 := Nat.zero_min _
         rw [hm] at hxs ⊢
         refine ⟨#[], by simp [Builtin.firstCells, loadCells, loadCellsFrom], ?_⟩
         have := readCells_length hxs
         cases xs with
         | nil => exact .nil
         | cons _ _ => simp at this
        | slice hl hc hb =>
         obtain ⟨c', e, r⟩ := h.read hl hxs C.P
         exact ⟨c', e, r⟩
       ·rename_i s
        cases hxs
        cases hx
        refine ⟨_, rfl, ?_⟩
        have : ((s.extract 0 (Nat.min sl dLen)).data.map fun b => (.int .u8 b.toNat : Value)).toList = ofBytes (s.data.toList.take (Nat.min sl dLen)) := by
         simp [ofBytes, ByteArray.data_extract, List.extract_eq_take_drop]
        rw [this]
        exact ofBytes_rel _ _
       ·cases hxs
      obtain ⟨new, hf, hr⟩ := hfirst
      have hpre : ∀ (K : Result Value), ((do
        if let some a := base' then storeCells a new.toList
        pure (goInt (Nat.min sl dLen)) : Sem Value)).run C.P w = K -> (Builtin.copy_ ⟨ts :: rest⟩ ty ⟨[.slice base' dLen cap', x']⟩).run C.P w = K := by
       intro K hK
       simp only [Builtin.copy_, a0, b0, b1]
       rw [rbo _ (run_und hT hts w)]
       simp only [hd]
       rw [rbo _ hlen, rbo _ (run_size hT hte w), rbo _ hf]
       exact hK
      split at ha
      ·obtain ⟨rfl, rfl⟩ := val_eq ha
       cases hs
       refine ⟨ρ, .int .i64 (Int.ofNat (Nat.min sl 0)), w, hpre _ rfl, Ren.le_refl _, h, .int _ _⟩
      ·rename_i hne
       obtain ⟨rfl, rfl⟩ := val_eq ha
       have hn : new.toList = [] := by cases hq : new.toList with | nil => rfl | cons _ _ => rw [hq] at hr; cases hr
       refine ⟨ρ, .int .i64 (Int.ofNat (Nat.min sl dLen)), w, hpre _ ?_, Ren.le_refl _, h, .int _ _⟩
       rw [hn]
       cases base' <;> rfl
      ·rename_i b o hne1
       split at ha
       ·rename_i st1 hw1
        obtain ⟨rfl, rfl⟩ := val_eq ha
        have hbase : ∃ l, ρ b = some l /\ base' = some ⟨l.b, l.d + o, none⟩ := by
         cases hs with
         | slice0 _ a' =>
          exfalso
          have hm : Nat.min sl 0 = 0 := Nat.min_zero _
          rw [hm] at hxs
          have : xs = [] := by
           unfold srcCells at hxs
           split at hxs
           ·cases hxs; rfl
           ·have := readCells_length hxs
            cases xs with
            | nil => rfl
            | cons _ _ => simp at this
           ·cases hxs; simp [ofBytes]
           ·cases hxs
          exact hne1 this
         | slice hl hc hb => exact ⟨_, hl, rfl⟩
        obtain ⟨l, hl, rfl⟩ := hbase
        obtain ⟨w', hst, hrel, _⟩ := h.write hl hw1 hr C.P
        refine ⟨ρ, .int .i64 (Int.ofNat (Nat.min sl dLen)), w', hpre _ ?_, Ren.le_refl _, hrel, .int _ _⟩
        simp only
        rw [rbo _ hst]
        rfl
       ·cases ha
      ·cases ha
     ·cases ha
    ·cases ha
   ·cases ha
  ·cases ha
 ·cases ha
theorem len_sim (hT : TOk C) (h : WRel w0 N0 G ρ st w) {argTypes : Array TypeId} {ty : TypeId} {args : List Value} {args' : Array Value} (hargs : VsRel ρ args args'.toList) (ha : aLen C argTypes.toList args st = some (.val v st')) :
  (Builtin.len_ argTypes ty args').run C.P w = .ok v w /\ VRel ρ v v /\ st' = st := by
 obtain ⟨argTypes⟩ := argTypes
 obtain ⟨args'⟩ := args'
 unfold aLen at ha
 split at ha
 ·rename_i t rest x xs hat
  simp only at hat hargs
  subst hat
  cases hargs with
  | @cons _ x' _ xs' hx hargs =>
  have a0 : (⟨t :: rest⟩ : Array TypeId)[0]? = some t := rfl
  have b0 : (⟨x' :: xs'⟩ : Array Value)[0]? = some x' := rfl
  split at ha
  ·cases ha
  ·rename_i ti ht
   have hu := run_und hT ht w
   split at ha
   ·rename_i s hd
    obtain ⟨rfl, rfl⟩ := val_eq ha
    cases hx
    refine ⟨?_, .int _ _, rfl⟩
    simp only [Builtin.len_, a0, b0]
    rw [rbo _ hu, hd]
    show Result.ok (goInt s.size) w = _
    rw [size_data]
    rfl
   ·rename_i n e hd
    obtain ⟨rfl, rfl⟩ := val_eq ha
    refine ⟨?_, .int _ _, rfl⟩
    simp only [Builtin.len_, a0, b0]
    rw [rbo _ hu, hd]
    rfl
   ·rename_i n e c hd
    obtain ⟨rfl, rfl⟩ := val_eq ha
    refine ⟨?_, .int _ _, rfl⟩
    simp only [Builtin.len_, a0, b0]
    rw [rbo _ hu, hd]
    cases hx <;> rfl
   ·rename_i hd
    obtain ⟨rfl, rfl⟩ := val_eq ha
    refine ⟨?_, .int _ _, rfl⟩
    simp only [Builtin.len_, a0, b0]
    rw [rbo _ hu, hd]
    cases hx; rfl
   ·rename_i r hd
    split at ha
    ·rename_i es ck hg
     obtain ⟨rfl, rfl⟩ := val_eq ha
     cases hx with
     | map hl =>
      obtain ⟨es', e, hr⟩ := h.obj _ _ _ hl hg
      refine ⟨?_, .int _ _, rfl⟩
      simp only [Builtin.len_, a0, b0]
      rw [rbo _ hu, hd]
      simp only
      rw [rbo _ (run_getObj e (by intro _ _ _ h; cases h))]
      have hl := hr.length
      simp only [Array.length_toList] at hl
      rw [hl]
      rfl
    ·cases ha
   ·cases ha
 ·cases ha
theorem foldMax_sim {P : Program} : ∀ {r r' : List Value} {x x' u : Value}, VsRel ρ r r' -> VRel ρ x x' -> foldMin true x r = some u -> (r'.foldlM Builtin.max2 x').run P w = .ok u w /\ VRel ρ u u := by
 intro r
 induction r with
 | nil =>
  intro r' x x' u hr hx h
  cases hr
  cases hx <;> simp only [foldMin, Option.some.injEq] at h <;> first | cases h; done | (subst h; exact ⟨rfl, .int _ _⟩)
 | cons y r ih =>
  intro r' x x' u hr hx h
  cases hr with
  | cons hy hr =>
   unfold foldMin at h
   split at h
   ·rename_i e; cases e
   ·rename_i k a k' b r0 e
    cases e
    cases hx
    cases hy
    simp only [intLt_iff] at h
    have := ih hr (.int _ _) h
    refine ⟨?_, this.2⟩
    rw [List.foldlM_cons]
    have hm : (Builtin.max2 (.int k a) (.int k' b)).run P w = .ok (.int k (if b > a then b else a)) w := rfl
    rw [rbo _ hm]
    simpa using this.1
   ·cases h
theorem foldMin_sim {P : Program} : ∀ {r r' : List Value} {x x' u : Value}, VsRel ρ r r' -> VRel ρ x x' -> foldMin false x r = some u -> (r'.foldlM Builtin.min2 x').run P w = .ok u w /\ VRel ρ u u := by
 intro r
 induction r with
 | nil =>
  intro r' x x' u hr hx h
  cases hr
  cases hx <;> simp only [foldMin, Option.some.injEq] at h <;> first | cases h; done | (subst h; exact ⟨rfl, .int _ _⟩)
 | cons y r ih =>
  intro r' x x' u hr hx h
  cases hr with
  | cons hy hr =>
   unfold foldMin at h
   split at h
   ·rename_i e; cases e
   ·rename_i k a k' b r0 e
    cases e
    cases hx
    cases hy
    simp only [intLt_iff] at h
    have := ih hr (.int _ _) h
    refine ⟨?_, this.2⟩
    rw [List.foldlM_cons]
    have hm : (Builtin.min2 (.int k a) (.int k' b)).run P w = .ok (.int k (if b < a then b else a)) w := rfl
    rw [rbo _ hm]
    simpa using this.1
   ·cases h
end
open Go.RowKit (Below)
section
variable {C : Ctx} {w0 : World} {N0 : Nat} {G : Nat -> Prop} {ρ : Ren} {st st' : St} {w : World} {v : Value} {ev : Operand -> Option Value} {ev' : Operand -> Value}
theorem evList_rel (he : EvRel ρ ev ev') : ∀ {xs : List Operand} {vs : List Value}, evList ev xs = some vs -> VsRel ρ vs (xs.map ev') := by
 intro xs
 induction xs with
 | nil => intro vs h; simp [evList] at h; subst h; exact .nil
 | cons x xs ih =>
  intro vs h
  simp only [evList] at h
  split at h
  ·rename_i u l hu hl
   cases h
   exact .cons (he _ _ hu) (ih hl)
  ·cases h
theorem evParts_rel (he : EvRel ρ ev ev') : ∀ {xs : List (Nat × Operand)} {vs : List (Nat × Value)}, evParts ev xs = some vs -> PsRel ρ vs (xs.map fun (i, x) => (i, ev' x)) := by
 intro xs
 induction xs with
 | nil => intro vs h; simp [evParts] at h; subst h; exact .nil
 | cons x xs ih =>
  obtain ⟨i, x⟩ := x
  intro vs h
  simp only [evParts] at h
  split at h
  ·rename_i u l hu hl
   cases h
   exact .cons (he _ _ hu) (ih hl)
  ·cases h
theorem SimV.value {r : Result Value} {R : Result Next} (h : SimV w0 N0 G ρ st' v r) (hr : R = r.andThen fun a w => .ok (Next.value a) w) : SimAR C w0 N0 G ρ st w (.val v st') R := by
 obtain ⟨ρ', v', w', e, k⟩ := h
 subst e
 exact ⟨ρ', v', w', .inl (by rw [hr]; rfl), k⟩
theorem callFunc_body (hF : FOk C) {f : FuncId} {fi : FI} (h : C.ff.get f = some fi) (args : Array Value) : (callFunc f args).run C.P w = .ok (.enter f args) w := by
 obtain ⟨fn, h1, h2, _, _, h5⟩ := hF.fn _ _ h
 unfold callFunc
 rw [rbo _ (show (program).run C.P w = .ok C.P w from rfl), h1]
 simp only [h5, Bool.false_eq_true, if_false, h2, Option.isNone_some]
 rfl
theorem callValue_sim (hF : FOk C) (hE : ExtOk C) {f f' : Value} {args : List Value} {args' : Array Value} {ar : AR} (hw : WRel w0 N0 G ρ st w) (hf : VRel ρ f f') (hargs : VsRel ρ args args'.toList) (h : aCallValue C f args st = some ar) :
  SimAR C w0 N0 G ρ st w ar ((do let d <- Deferred.ofValue f' args'; invoke d.target d.args : Sem Next).run C.P w) := by
 unfold aCallValue at h
 split at h
 ·rename_i g first captured
  cases hf with
  | @func _ _ first' _ captured' h1 h2 =>
  have hall : VsRel ρ (first.toList ++ args ++ captured.toList) (first' ++ args' ++ captured').toList := by
   simp only [Array.toList_append]
   exact (h1.append hargs).append h2
  have hrun : (do let d <- Deferred.ofValue (.func (.func g) first' captured') args'; invoke d.target d.args : Sem Next).run C.P w = (callFunc g (first' ++ args' ++ captured')).run C.P w := rfl
  rw [hrun]
  simp only at h
  split at h
  ·rename_i fi hfi
   cases h
   exact ⟨_, callFunc_body hF hfi _, hall⟩
  ·split at h
   ·rename_i u hu
    cases h
    obtain ⟨e1, e2⟩ := hE _ _ _ hu ρ _ w hall
    exact ⟨ρ, u, w, .inl e1, Ren.le_refl _, hw, e2⟩
   ·cases h
 ·rename_i l first captured
  cases hf with
  | @yield _ L _ first' _ captured' hl h1 h2 =>
  split at h
  ·rename_i hfirst
   cases h
   rw [hfirst] at h1
   have hf' : first' = #[] := by
    cases hq : first'.toList with
    | nil => exact Array.toList_eq_nil_iff.1 hq
    | cons _ _ => rw [hq] at h1; cases h1
   subst hf'
   refine ⟨L, args', hl, hargs, ?_⟩
   have : (do let d <- Deferred.ofValue (.func (.yield L.b) #[] captured') args'; invoke d.target d.args : Sem Next).run C.P w = (Instr.yield L.b (#[] ++ args')).run C.P w := rfl
   rw [this, Array.empty_append]
  ·cases h
 ·cases h
theorem defer_sim {f f' : Value} {args : List Value} {args' : Array Value} {ar : AR} (hf : VRel ρ f f') (hargs : VsRel ρ args args'.toList) (h : aDefer f args = some ar) :
  SimAR C w0 N0 G ρ st w ar ((do pure (.defer (<- Deferred.ofValue f' args')) : Sem Next).run C.P w) := by
 unfold aDefer at h
 split at h
 ·rename_i g first captured
  cases h
  cases hf with
  | @func _ _ first' _ captured' h1 h2 =>
  refine ⟨_, rfl, ⟨rfl, h2⟩, ?_⟩
  simp only [Array.toList_append]
  exact h1.append hargs
 ·cases h
theorem optEv_rel (he : EvRel ρ ev ev') {x : Option Operand} {l : Option Value} (h : (match x with | none => some none | some l => (ev l).map some) = some l) :
  (l = none /\ x.map ev' = none) ∨ ∃ y y', l = some y /\ x.map ev' = some y' /\ VRel ρ y y' := by
 cases x with
 | none => cases h; exact .inl ⟨rfl, rfl⟩
 | some x =>
  simp only at h
  cases hx : ev x with
  | none => rw [hx] at h; cases h
  | some u => rw [hx] at h; cases h; exact .inr ⟨u, ev' x, rfl, rfl, he _ _ hx⟩
theorem arAll (C : Ctx) (b : Builtin) (argTypes : List TypeId) (args : List Value) (ar : AR) (h : aBuiltin C b argTypes args st = some ar) : (∃ u st', ar = .val u st') ∨ ar = .recover := by
 unfold aBuiltin at h
 split at h
 ·unfold aAppend at h
  repeat' split at h
  all_goals first | cases h; done | skip
  unfold appendTo at h
  repeat' split at h
  all_goals first | cases h; done | (unfold val at h; cases h; exact .inl ⟨_, _, rfl⟩)
 ·unfold aCopy at h
  repeat' split at h
  all_goals first | cases h; done | (unfold val at h; cases h; exact .inl ⟨_, _, rfl⟩)
 ·unfold aLen at h
  repeat' split at h
  all_goals first | cases h; done | (unfold val at h; cases h; exact .inl ⟨_, _, rfl⟩)
 ·repeat' split at h
  all_goals first | cases h; done | (unfold val at h; cases h; exact .inl ⟨_, _, rfl⟩)
 ·repeat' split at h
  all_goals first | cases h; done | (unfold val at h; cases h; exact .inl ⟨_, _, rfl⟩)
 ·cases h; exact .inr rfl
 ·cases h
theorem builtin_sim (hT : TOk C) (hw : WRel w0 N0 G ρ st w) {b : Builtin} {argTypes : Array TypeId} {ty : TypeId} {cs : Array Bool} {args : List Value} {args' : Array Value} {ar : AR} (hargs : VsRel ρ args args'.toList) (h : aBuiltin C b argTypes.toList args st = some ar) :
  SimAR C w0 N0 G ρ st w ar ((builtin b argTypes ty cs args').run C.P w) := by
 rcases arAll C b _ _ _ h with ⟨u, st1, rfl⟩ | rfl
 ·unfold aBuiltin at h
  split at h
  ·exact SimV.value (append_sim hT hw (ty := ty) hargs h) (Sem.run_bind ..)
  ·exact SimV.value (copy_sim hT hw (ty := ty) hargs h) (Sem.run_bind ..)
  ·obtain ⟨e1, e2, rfl⟩ := len_sim (ty := ty) hT hw hargs h
   exact SimV.value (C := C) (w := w) (SimV.same hw e2) (by
    show (do pure (.value (<- Builtin.len_ argTypes ty args')) : Sem Next).run C.P w = _
    rw [Sem.run_bind, e1]
    rfl)
  ·split at h
   ·rename_i x r
    split at h
    ·rename_i z hz
     obtain ⟨rfl, rfl⟩ := val_eq h
     obtain ⟨args'⟩ := args'
     cases hargs with
     | cons hx hr =>
      obtain ⟨e1, e2⟩ := foldMax_sim (P := C.P) (w := w) hr hx hz
      exact SimV.value (C := C) (w := w) (SimV.same hw e2) (by
       show (do pure (.value (<- List.foldlM Builtin.max2 _ _)) : Sem Next).run C.P w = _
       rw [Sem.run_bind, e1]
       rfl)
    ·cases h
   ·cases h
  ·split at h
   ·rename_i x r
    split at h
    ·rename_i z hz
     obtain ⟨rfl, rfl⟩ := val_eq h
     obtain ⟨args'⟩ := args'
     cases hargs with
     | cons hx hr =>
      obtain ⟨e1, e2⟩ := foldMin_sim (P := C.P) (w := w) hr hx hz
      exact SimV.value (C := C) (w := w) (SimV.same hw e2) (by
       show (do pure (.value (<- List.foldlM Builtin.min2 _ _)) : Sem Next).run C.P w = _
       rw [Sem.run_bind, e1]
       rfl)
    ·cases h
   ·cases h
  ·cases h
  ·cases h
 ·unfold aBuiltin at h
  split at h
  ·exfalso; rcases arAll C .append _ _ _ (by unfold aBuiltin; exact h) with ⟨_, _, e⟩ | _ <;> first | cases e | skip
   unfold aAppend at h
   repeat' split at h
   all_goals first | cases h; done | skip
   unfold appendTo at h
   repeat' split at h
   all_goals first | cases h; done | (unfold val at h; cases h)
  ·exfalso
   unfold aCopy at h
   repeat' split at h
   all_goals first | cases h; done | (unfold val at h; cases h)
  ·exfalso
   unfold aLen at h
   repeat' split at h
   all_goals first | cases h; done | (unfold val at h; cases h)
  ·exfalso
   repeat' split at h
   all_goals first | cases h; done | (unfold val at h; cases h)
  ·exfalso
   repeat' split at h
   all_goals first | cases h; done | (unfold val at h; cases h)
  ·rfl
  ·cases h
theorem value_same (hw : WRel w0 N0 G ρ st w) {s : Sem Value} {v' : Value} (h1 : s.run C.P w = .ok v' w) (h2 : VRel ρ v v') : SimAR C w0 N0 G ρ st w (.val v st) ((do pure (.value (<- s)) : Sem Next).run C.P w) :=
 ⟨ρ, v', w, .inl (by rw [rbo _ h1]; rfl), Ren.le_refl _, hw, h2⟩
theorem value_sim {s : Sem Value} (h : SimV w0 N0 G ρ st' v (s.run C.P w)) : SimAR C w0 N0 G ρ st w (.val v st') ((do pure (.value (<- s)) : Sem Next).run C.P w) := SimV.value h (Sem.run_bind ..)
theorem skip_sim {s : Sem Unit} {w' : World} (h1 : s.run C.P w = .ok () w') (h2 : WRel w0 N0 G ρ st' w') : SimAR C w0 N0 G ρ st w (.val undefV st') ((do s; pure .skip : Sem Next).run C.P w) :=
 ⟨ρ, undef, w', .inr ⟨by rw [rbo _ h1]; rfl, rfl⟩, Ren.le_refl _, h2, .tuple .nil⟩
theorem ar_val {f : Option AR} (hf : ∀ x, f = some x -> ∃ u s, x = .val u s) {x : AR} (h : f = some x) : ∃ u s, x = .val u s := hf x h
theorem aop_sim (hT : TOk C) (hF : FOk C) (hE : ExtOk C) (hw : WRel w0 N0 G ρ st w) (he : EvRel ρ ev ev') {o : Oper} {ar : AR} (h : aop C ev o st = some ar) : SimAR C w0 N0 G ρ st w ar ((execOp ev' o).run C.P w) := by
 unfold aop at h
 split at h
 case h_1 x hop =>
  split at h
  ·rename_i u hu
   unfold val at h; cases h
   simp only [execOp, hop]
   exact ⟨ρ, _, w, .inl rfl, Ren.le_refl _, hw, he _ _ hu⟩
  ·cases h
 case h_2 x hop =>
  split at h
  ·rename_i u hu
   unfold val at h; cases h
   simp only [execOp, hop]
   exact ⟨ρ, _, w, .inl rfl, Ren.le_refl _, hw, he _ _ hu⟩
  ·cases h
 case h_3 c a b hop =>
  split at h
  ·rename_i t u v hc ha hb
   unfold val at h; cases h
   have hc' := he _ _ hc
   simp only [execOp, hop]
   cases hcv : ev' c <;> rw [hcv] at hc' <;> cases hc'
   cases t
   ·exact ⟨ρ, _, w, .inl rfl, Ren.le_refl _, hw, he _ _ hb⟩
   ·exact ⟨ρ, _, w, .inl rfl, Ren.le_refl _, hw, he _ _ ha⟩
  ·cases h
 case h_4 t hop =>
  have hv : ∃ u s, ar = .val u s := by unfold aAlloc val at h; split at h <;> cases h; exact ⟨_, _, rfl⟩
  obtain ⟨u, s, rfl⟩ := hv
  simp only [execOp, hop]
  exact value_sim (alloc_sim hT hw h)
 case h_5 t x hop =>
  split at h
  ·rename_i u hu
   have hv : ∃ u s, ar = .val u s := by unfold aBox val at h; split at h <;> cases h; exact ⟨_, _, rfl⟩
   obtain ⟨u, s, rfl⟩ := hv
   simp only [execOp, hop]
   exact value_sim (box_sim hw (he _ _ hu) h)
  ·cases h
 case h_6 t ps hop =>
  split at h
  ·rename_i l hl
   have hv : ∃ u s, ar = .val u s := by
    unfold aBuild val at h
    repeat' split at h
    all_goals first | cases h; done | (cases h; exact ⟨_, _, rfl⟩)
   obtain ⟨u, s, rfl⟩ := hv
   simp only [execOp, hop]
   obtain ⟨v', e1, e2, rfl⟩ := build_sim (w := w) (ps' := ps.map fun (i, x) => (i, ev' x)) hT hw (by rw [Array.toList_map]; exact evParts_rel he hl) h
   exact value_same hw e1 e2
  ·cases h
 case h_7 t n ps hop =>
  split at h
  ·rename_i l hl
   have hv : ∃ u s, ar = .val u s := by
    unfold aBuildSlice val at h
    repeat' split at h
    all_goals first | cases h; done | (cases h; exact ⟨_, _, rfl⟩)
   obtain ⟨u, s, rfl⟩ := hv
   simp only [execOp, hop]
   exact value_sim (buildSlice_sim hT hw (by rw [Array.toList_map]; exact evParts_rel he hl) h)
  ·cases h
 case h_8 t a hop =>
  split at h
  ·rename_i u hu
   have hv : ∃ u s, ar = .val u s := by
    unfold aLoad val at h
    repeat' split at h
    all_goals first | cases h; done | (cases h; exact ⟨_, _, rfl⟩)
   obtain ⟨u, s, rfl⟩ := hv
   simp only [execOp, hop]
   obtain ⟨v', e1, e2, rfl⟩ := load_sim hT hw (he _ _ hu) h
   exact value_same hw e1 e2
  ·cases h
 case h_9 t a x hop =>
  split at h
  ·rename_i u u2 hu hu2
   have hv : ∃ u s, ar = .val u s := by
    unfold aStore val at h
    repeat' split at h
    all_goals first | cases h; done | (cases h; exact ⟨_, _, rfl⟩)
   obtain ⟨u, s, rfl⟩ := hv
   simp only [execOp, hop]
   obtain ⟨w', e1, e2, rfl, _⟩ := store_sim hT hw (he _ _ hu) (he _ _ hu2) h
   exact skip_sim e1 e2
  ·cases h
 case h_10 x hop =>
  split at h
  ·rename_i u hu
   have hv : ∃ u s, ar = .val u s := by
    unfold aNilCheck val at h
    repeat' split at h
    all_goals first | cases h; done | (cases h; exact ⟨_, _, rfl⟩)
   obtain ⟨u1, s, rfl⟩ := hv
   have hr := he _ _ hu
   obtain ⟨rfl, rfl, n1, n2, n3, n4⟩ := nilCheck_sim hr h
   simp only [execOp, hop]
   refine ⟨ρ, ev' x, w, .inl ?_, Ren.le_refl _, hw, hr⟩
   generalize ev' x = y at *
   rfl
  ·cases h
 case h_11 op t x y yt hop =>
  split at h
  ·rename_i u v hu hv
   split at h
   ·rename_i r hr
    unfold val at h; cases h
    obtain ⟨e1, e2⟩ := bin_sim (w := w) hT (he _ _ hu) (he _ _ hv) hr
    simp only [execOp, hop]
    exact value_same hw e1 e2
   ·cases h
  ·cases h
 case h_12 op t x hop =>
  split at h
  ·rename_i u hu
   split at h
   ·rename_i r hr
    unfold val at h; cases h
    obtain ⟨e1, e2⟩ := un_sim (C := C) (w := w) (he _ _ hu) hr
    simp only [execOp, hop]
    exact value_same hw e1 e2
   ·cases h
  ·cases h
 case h_13 s d x hop =>
  split at h
  ·rename_i u hu
   have hv : ∃ u s, ar = .val u s := by
    unfold aConvert val at h
    repeat' split at h
    all_goals first | cases h; done | (cases h; exact ⟨_, _, rfl⟩)
   obtain ⟨u1, s1, rfl⟩ := hv
   simp only [execOp, hop]
   exact value_sim (convert_sim hT hw (he _ _ hu) h)
  ·cases h
 case h_14 t x hop =>
  split at h
  ·rename_i u hu
   have hv : ∃ u s, ar = .val u s := by
    unfold aMakeInterface val at h
    repeat' split at h
    all_goals first | cases h; done | (cases h; exact ⟨_, _, rfl⟩)
   obtain ⟨u1, s1, rfl⟩ := hv
   simp only [execOp, hop]
   obtain ⟨e1, e2, rfl, e4⟩ := makeInterface_sim (w := w) hT (he _ _ hu) h
   exact value_same hw e1 e4
  ·cases h
 case h_15 fn a b hop =>
  split at h
  ·rename_i u v hfn hu hv
   unfold val at h; cases h
   simp only [execOp, hop, Instr.makeFunc]
   refine ⟨ρ, .func fn (a.map ev') (b.map ev'), w, .inl rfl, Ren.le_refl _, hw, ?_⟩
   cases fn <;> first | (simp [fnOk] at hfn; done) | skip
   exact .func _ (by rw [Array.toList_map]; exact evList_rel he hu) (by rw [Array.toList_map]; exact evList_rel he hv)
  ·cases h
 case h_16 t hop =>
  unfold val at h; cases h
  simp only [execOp, hop]
  refine ⟨ρ.add st.n ⟨w.heap.size, 0, 0, 0⟩, .map (some w.heap.size), { w with heap := w.heap.push (.map #[] 0) }, .inl rfl, Ren.le_add hw.none_at, hw.new rfl trivial ⟨#[], rfl, trivial⟩, ?_⟩
  exact .map (l := ⟨w.heap.size, 0, 0, 0⟩) (Ren.add_same _ _ _)
 case h_17 t l c hop =>
  split at h
  ·rename_i u v hu hv
   have hv' : ∃ u s, ar = .val u s := by
    unfold aMakeSlice val at h
    repeat' split at h
    all_goals first | cases h; done | (cases h; exact ⟨_, _, rfl⟩)
   obtain ⟨u1, s1, rfl⟩ := hv'
   simp only [execOp, hop]
   exact value_sim (makeSlice_sim hT hw (he _ _ hu) (he _ _ hv) h)
  ·cases h
 case h_18 t x lo hi mx hop =>
  split at h
  ·rename_i u l hh m hu hl hhi hm
   have hv' : ∃ u s, ar = .val u s := by
    unfold aSlice val at h
    repeat' split at h
    all_goals first | cases h; done | (cases h; exact ⟨_, _, rfl⟩)
   obtain ⟨u1, s1, rfl⟩ := hv'
   simp only [execOp, hop]
   obtain ⟨v', e1, e2, rfl⟩ := slice_sim (w := w) hT hw (he _ _ hu) (optEv_rel he hl) (optEv_rel he hhi) (optEv_rel he hm) h
   exact value_same hw e1 e2
  ·cases h
 case h_19 t x f hop =>
  split at h
  ·rename_i u hu
   have hv' : ∃ u s, ar = .val u s := by
    unfold aFieldAddr val at h
    repeat' split at h
    all_goals first | cases h; done | (cases h; exact ⟨_, _, rfl⟩)
   obtain ⟨u1, s1, rfl⟩ := hv'
   simp only [execOp, hop]
   obtain ⟨v', e1, e2, rfl⟩ := fieldAddr_sim (w := w) hT (he _ _ hu) h
   exact value_same hw e1 e2
  ·cases h
 case h_20 t x f hop =>
  split at h
  ·rename_i u hu
   have hv' : ∃ u s, ar = .val u s := by
    unfold aField val at h
    repeat' split at h
    all_goals first | cases h; done | (cases h; exact ⟨_, _, rfl⟩)
   obtain ⟨u1, s1, rfl⟩ := hv'
   simp only [execOp, hop]
   obtain ⟨v', e1, e2, rfl⟩ := field_sim (w := w) hT (he _ _ hu) h
   exact value_same hw e1 e2
  ·cases h
 case h_21 t x i hop =>
  split at h
  ·rename_i u v hu hv
   have hv' : ∃ u s, ar = .val u s := by
    unfold aIndexAddr val at h
    repeat' split at h
    all_goals first | cases h; done | (cases h; exact ⟨_, _, rfl⟩)
   obtain ⟨u1, s1, rfl⟩ := hv'
   simp only [execOp, hop]
   obtain ⟨v', e1, e2, rfl⟩ := indexAddr_sim (w := w) hT (he _ _ hu) (he _ _ hv) h
   exact value_same hw e1 e2
  ·cases h
 case h_22 t x i hop =>
  split at h
  ·rename_i u v hu hv
   have hv' : ∃ u s, ar = .val u s := by
    unfold aIndex val at h
    repeat' split at h
    all_goals first | cases h; done | (cases h; exact ⟨_, _, rfl⟩)
   obtain ⟨u1, s1, rfl⟩ := hv'
   simp only [execOp, hop]
   obtain ⟨v', e1, e2, rfl⟩ := index_sim (w := w) hT (he _ _ hu) (he _ _ hv) h
   exact value_same hw e1 e2
  ·cases h
 case h_23 t x i ok hop =>
  split at h
  ·rename_i u v hu hv
   have hv' : ∃ u s, ar = .val u s := by
    unfold aLookup val at h
    repeat' split at h
    all_goals first | cases h; done | (cases h; exact ⟨_, _, rfl⟩)
   obtain ⟨u1, s1, rfl⟩ := hv'
   simp only [execOp, hop]
   obtain ⟨v', e1, e2, rfl⟩ := lookup_sim (w := w) hT hw (he _ _ hu) (he _ _ hv) h
   exact value_same hw e1 e2
  ·cases h
 case h_24 t m k y hop =>
  split at h
  ·rename_i a b c ha hb hc
   have hv' : ∃ u s, ar = .val u s := by
    unfold aMapUpdate val at h
    repeat' split at h
    all_goals first | cases h; done | (cases h; exact ⟨_, _, rfl⟩)
   obtain ⟨u1, s1, rfl⟩ := hv'
   simp only [execOp, hop]
   obtain ⟨w', e1, e2, rfl, _⟩ := mapUpdate_sim hT hw (he _ _ ha) (he _ _ hb) (he _ _ hc) h
   exact skip_sim e1 e2
  ·cases h
 case h_25 t m k y hop =>
  split at h
  ·rename_i a b c ha hb hc
   have hv' : ∃ u s, ar = .val u s := by
    unfold aMapUpdate val at h
    repeat' split at h
    all_goals first | cases h; done | (cases h; exact ⟨_, _, rfl⟩)
   obtain ⟨u1, s1, rfl⟩ := hv'
   simp only [execOp, hop]
   obtain ⟨w', e1, e2, rfl, _⟩ := mapUpdate_sim hT hw (he _ _ ha) (he _ _ hb) (he _ _ hc) h
   exact skip_sim e1 e2
  ·cases h
 case h_26 x xt t ok hop =>
  split at h
  ·rename_i u hu
   have hv' : ∃ u s, ar = .val u s := by
    unfold aTypeAssert val at h
    repeat' split at h
    all_goals first | cases h; done | (cases h; exact ⟨_, _, rfl⟩)
   obtain ⟨u1, s1, rfl⟩ := hv'
   simp only [execOp, hop]
   obtain ⟨v', e1, e2, rfl⟩ := typeAssert_sim (w := w) (xt := xt) hT (he _ _ hu) h
   exact value_same hw e1 e2
  ·cases h
 case h_27 x i hop =>
  split at h
  ·rename_i u hu
   have hv' : ∃ u s, ar = .val u s := by
    unfold aExtract val at h
    repeat' split at h
    all_goals first | cases h; done | (cases h; exact ⟨_, _, rfl⟩)
   obtain ⟨u1, s1, rfl⟩ := hv'
   simp only [execOp, hop]
   obtain ⟨v', e1, e2, rfl⟩ := extract_sim (C := C) (w := w) (he _ _ hu) h
   exact value_same hw e1 e2
  ·cases h
 case h_28 c hop =>
  split at h
  ·cases h
  ·rename_i args hargs
   have hrel : VsRel ρ args (c.args.map ev').toList := by rw [Array.toList_map]; exact evList_rel he hargs
   simp only [execOp, hop]
   split at h
   ·rename_i b hc
    have : (do let d <- resolve ev' c o.type; invoke d.target d.args : Sem Next).run C.P w = (builtin b c.argTypes o.type (c.args.map fun | .const _ => true | _ => false) (c.args.map ev')).run C.P w := by
     unfold resolve
     rw [hc]
     rfl
    rw [this]
    exact builtin_sim hT hw hrel h
   ·rename_i f hc
    split at h
    ·rename_i u hu
     have : (do let d <- resolve ev' c o.type; invoke d.target d.args : Sem Next) = (do let d <- Deferred.ofValue (ev' f) (c.args.map ev'); invoke d.target d.args : Sem Next) := by
      unfold resolve
      rw [hc]
     rw [this]
     exact callValue_sim hF hE hw (he _ _ hu) hrel h
    ·cases h
   ·cases h
 case h_29 c hop =>
  split at h
  ·rename_i args f hargs hc
   split at h
   ·rename_i u hu
    have hrel : VsRel ρ args (c.args.map ev').toList := by rw [Array.toList_map]; exact evList_rel he hargs
    simp only [execOp, hop]
    have : (do pure (.defer (<- resolve ev' c o.type)) : Sem Next) = (do pure (.defer (<- Deferred.ofValue (ev' f) (c.args.map ev'))) : Sem Next) := by
     unfold resolve
     rw [hc]
    rw [this]
    exact defer_sim (he _ _ hu) hrel h
   ·cases h
  ·cases h
 case h_30 x hop =>
  split at h
  ·rename_i t u hu
   cases h
   have hr := he _ _ hu
   simp only [execOp, hop]
   cases hx : ev' x <;> rw [hx] at hr <;> cases hr
   rename_i hr
   exact ⟨rfl, _, rfl, .iface _ hr⟩
  ·cases h
 case h_31 => cases h
end
end Go.AM
