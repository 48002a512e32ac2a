/- The law's own body up to the two numbers of operators, at any two bytes. -/
import Derived.Test.YtaefjijnnbcjbaaGreatDoorT4
namespace Go.Proofs.YtaefjijnnbcjbaaGreatDoor
open Go.AM

theorem intEq_refl (x : Int) : intEq x x = true := by
  cases x <;> simp [intEq]

theorem veq_int (k : IntKind) (x : Int) : veq (.int k x) (.int k x) = true := by
  rw [veq, intEq_refl]
  cases k <;> rfl

section
variable {D : Ctx} {rc : Rec} {fc : FC} {ops : List Oper} {bs : List Nat} {i b bi d : Nat} {r : List Nat} {chks : List Chk} {fr fr' : Fr} {ps ps' : PanS} {st st' : St} {o : Oper} {v : Value}

theorem code_seq_norm {x y : Code} (h : code D rc fc x fr ps st = some (.norm, fr', ps', st')) : code D rc fc (.seq x y) fr ps st = code D rc fc y fr' ps' st' := by
  simp only [code, h]

theorem draw_val (h1 : nth ops i = some o) (h2 : nth bs i = some bi) (h3 : isEff o.op = false) (h4 : wantedA ops fr o = some true) (h5 : aop D (evOp fr) o st = some (.val v st'))
    (h6 : setDst fc.nt fr o.dst v = some fr') (h7 : isMaker o.op = false) (h8 : Nat.beq st'.n st.n = true) :
    drawOps D rc fc ops bs (i :: r) b chks fr ps st = drawOps D rc fc ops bs r b (.val i v :: chks) fr' ps st' := by
  simp only [drawOps, h1, h2, h3, h4, h5, h6, h7, h8]

theorem draw_eff (h1 : nth ops i = some o) (h2 : nth bs i = some bi) (h3 : isEff o.op = true) (hr : recheck D ops fr st b chks = true) (hs : stepOp D rc fc ops o fr ps st = some (.next fr' ps' st')) :
    drawOps D rc fc ops bs (i :: r) b chks fr ps st = drawOps D rc fc ops bs r bi chks fr' ps' st' := by
  simp only [drawOps, h1, h2, h3, hr, hs]

theorem draw_end (hr : recheck D ops fr st b chks = true) : drawOps D rc fc ops bs [] b chks fr ps st = some (.norm, fr, ps, st) := by
  simp only [drawOps, hr]

theorem stands_val (h1 : nth ops i = some o) (h2 : wantedA ops fr o = some true) (h3 : isMaker o.op = false) (h4 : o.dst = some d) (h5 : fr.tm.get d = some v) (h6 : aop D (evOp fr) o st = some (.val v st')) (h7 : Nat.beq st'.n st.n = true) (h8 : veq v v = true) :
    stands D ops fr st (.val i v) = true := by
  simp only [stands, h1, h2, h3, tmpIs, h4, h5, h6, h7, h8]
  rfl

theorem recheck_cons {c : Chk} (h : (Nat.testBit b c.idx || stands D ops fr st c) = true) (h' : recheck D ops fr st b chks = true) : recheck D ops fr st b (c :: chks) = true := by
  simp only [recheck, h, h', Bool.and_self]

theorem recheck_stands {c : Chk} (h : stands D ops fr st c = true) (h' : recheck D ops fr st b chks = true) : recheck D ops fr st b (c :: chks) = true :=
  recheck_cons (by rw [h, Bool.or_true]) h'

theorem recheck_bit {c : Chk} (h : Nat.testBit b c.idx = true) (h' : recheck D ops fr st b chks = true) : recheck D ops fr st b (c :: chks) = true :=
  recheck_cons (by rw [h, Bool.true_or]) h'
end

def sL : Code → Code
  | .seq a _ => a
  | c => c
def sR : Code → Code
  | .seq _ b => b
  | c => c

noncomputable def c0 : Code := (mkFI Tryz.f3).body
noncomputable def c1 : Code := sR c0
noncomputable def c2 : Code := sR c1
noncomputable def c3 : Code := sR c2
noncomputable def c4 : Code := sR c3
noncomputable def c5 : Code := sR c4
noncomputable def fc3 : FC := ⟨3, (mkFI Tryz.f3).nt, none, false⟩
noncomputable def rc1 : Rec := recN C intr1 60

def opsOf : Code → List Oper
  | .region _ ops _ => ops.toList
  | _ => []
noncomputable def ops5 : List Oper := opsOf (sL c4)

def sl5 : Value := .slice (some ⟨0, 0, none⟩) 9 9
def sl6 : Value := .slice (some ⟨1, 0, none⟩) 9 9
def stOf : Option (Ex × Fr × PanS × St) → St
  | some (_, _, _, st) => st
  | none => st0

noncomputable def st3 : St := stOf (code C rc1 fc3 (sL c2) ⟨.nil, []⟩ .none st0)
noncomputable def st4 : St := stOf (code C rc1 fc3 (sL c3) ⟨.nil, []⟩ .none st3)

def tm0 (A B : Value) : Tr Value := Tr.ofListFrom 0 [A, B] .nil
def tm1 (A B : Value) : Tr Value := (tm0 A B).set 4 (.bool false)
def tm2 (A B : Value) : Tr Value := ((tm1 A B).set 17 (.bool true)).set 18 (.bool false)
def tm3 (A B : Value) : Tr Value := ((tm2 A B).set 19 sl5).set 5 sl5
def tm4 (A B : Value) : Tr Value := ((tm3 A B).set 20 sl6).set 6 sl6

theorem to4 (A B : Value) : code C rc1 fc3 c0 ⟨tm0 A B, []⟩ .none st0 = code C rc1 fc3 c4 ⟨tm4 A B, []⟩ .none st4 := by
  have h0 : code C rc1 fc3 (sL c0) ⟨tm0 A B, []⟩ .none st0 = some (.norm, ⟨tm1 A B, []⟩, .none, st0) := by kernel_rfl
  have h1 : code C rc1 fc3 (sL c1) ⟨tm1 A B, []⟩ .none st0 = some (.norm, ⟨tm2 A B, []⟩, .none, st0) := by kernel_rfl
  have h2 : code C rc1 fc3 (sL c2) ⟨tm2 A B, []⟩ .none st0 = some (.norm, ⟨tm3 A B, []⟩, .none, st3) := by kernel_rfl
  have h3 : code C rc1 fc3 (sL c3) ⟨tm3 A B, []⟩ .none st3 = some (.norm, ⟨tm4 A B, []⟩, .none, st4) := by kernel_rfl
  have e0 : c0 = .seq (sL c0) c1 := by kernel_rfl
  have e1 : c1 = .seq (sL c1) c2 := by kernel_rfl
  have e2 : c2 = .seq (sL c2) c3 := by kernel_rfl
  have e3 : c3 = .seq (sL c3) c4 := by kernel_rfl
  conv => lhs; rw [e0]
  rw [code_seq_norm h0, e1, code_seq_norm h1, e2, code_seq_norm h2, e3, code_seq_norm h3]

end Go.Proofs.YtaefjijnnbcjbaaGreatDoor
