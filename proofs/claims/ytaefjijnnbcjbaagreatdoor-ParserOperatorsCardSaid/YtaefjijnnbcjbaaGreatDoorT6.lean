/- The law's own body: the two numbers of operators, at any two bytes. -/
import Derived.Test.YtaefjijnnbcjbaaGreatDoorT5
namespace Go.Proofs.YtaefjijnnbcjbaaGreatDoor
open Go.AM

/-- the frame behind region 5: A, B the bytes, x, y what they are as ints, i, k the numbers of the operators -/
def tm5 (A B x y i k : Value) : Tr Value :=
  (((((((((((((tm4 A B).set 21 A).set 22 x).set 23 sl5).set 24 (.int .i64 (.ofNat 9))).set 25 i).set 26 B).set 27 y).set 28 sl5).set 29 (.int .i64 (.ofNat 9))).set 30 k).set 7 i).set 8 k)

noncomputable def fin3 : Option (Ex × Fr × PanS × St) → Option (CR × PanS × St)
  | some (.norm, fr, ps, st) => finish C rc1 (mkFI Tryz.f3) .returning fr ps st
  | some (.ret, fr, ps, st) => finish C rc1 (mkFI Tryz.f3) .returning fr ps st
  | some (.panic v, fr, ps, st) => finish C rc1 (mkFI Tryz.f3) (.panicking v) fr ps st
  | _ => none

noncomputable def run5 (A B x y : Value) (i k : Nat) : Bool := isTrue (fin3 (code C rc1 fc3 c5 ⟨tm5 A B x y (.int .i64 (.ofNat i)) (.int .i64 (.ofNat k)), []⟩ .none st4))

noncomputable def op5 (i : Nat) : Oper := match nth ops5 i with | some o => o | none => default
def bs5 : List Nat := [0, 1, 0, 4, 15, 0, 32, 0, 128, 480, 31, 2047]

section
variable (a b : Nat)
def tmR0 : Tr Value := tm4 (.int .u8 (.ofNat a)) (.int .u8 (.ofNat b))
def tmR1 : Tr Value := (tmR0 a b).set 21 (.int .u8 (.ofNat a))
def tmR2 : Tr Value := (tmR1 a b).set 22 (.int .i64 (IntKind.i64.wrap (.ofNat a)))
def tmR3 : Tr Value := (tmR2 a b).set 23 sl5
def tmR4 : Tr Value := (tmR3 a b).set 24 (.int .i64 (.ofNat 9))
def tmR5 : Tr Value := (tmR4 a b).set 25 (.int .i64 (Int.tmod (IntKind.i64.wrap (.ofNat a)) (.ofNat 9)))
def tmR6 : Tr Value := (tmR5 a b).set 26 (.int .u8 (.ofNat b))
def tmR7 : Tr Value := (tmR6 a b).set 27 (.int .i64 (IntKind.i64.wrap (.ofNat b)))
def tmR8 : Tr Value := (tmR7 a b).set 28 sl5
def tmR9 : Tr Value := (tmR8 a b).set 29 (.int .i64 (.ofNat 9))
def tmR10 : Tr Value := (tmR9 a b).set 30 (.int .i64 (Int.tmod (IntKind.i64.wrap (.ofNat b)) (.ofNat 9)))
def tmR11 : Tr Value := (tmR10 a b).set 7 (.int .i64 (Int.tmod (IntKind.i64.wrap (.ofNat a)) (.ofNat 9)))
def tmR12 : Tr Value := (tmR11 a b).set 8 (.int .i64 (Int.tmod (IntKind.i64.wrap (.ofNat b)) (.ofNat 9)))
theorem dr0 (r : List Nat) (chks : List Chk) : drawOps C rc1 fc3 ops5 bs5 (0 :: r) 0 chks ⟨tmR0 a b, []⟩ .none st4 = drawOps C rc1 fc3 ops5 bs5 r 0 (.val 0 (.int .u8 (.ofNat a)) :: chks) ⟨tmR1 a b, []⟩ .none st4 :=
  draw_val (o := op5 0) (bi := 0) (by kernel_rfl) (by kernel_rfl) (by kernel_rfl) (by kernel_rfl) (by kernel_rfl) (by kernel_rfl) (by kernel_rfl) (by kernel_rfl)
theorem dr1 (r : List Nat) (chks : List Chk) : drawOps C rc1 fc3 ops5 bs5 (1 :: r) 0 chks ⟨tmR1 a b, []⟩ .none st4 = drawOps C rc1 fc3 ops5 bs5 r 0 (.val 1 (.int .i64 (IntKind.i64.wrap (.ofNat a))) :: chks) ⟨tmR2 a b, []⟩ .none st4 :=
  draw_val (o := op5 1) (bi := 1) (by kernel_rfl) (by kernel_rfl) (by kernel_rfl) (by kernel_rfl) (by kernel_rfl) (by kernel_rfl) (by kernel_rfl) (by kernel_rfl)
theorem dr2 (r : List Nat) (chks : List Chk) : drawOps C rc1 fc3 ops5 bs5 (2 :: r) 0 chks ⟨tmR2 a b, []⟩ .none st4 = drawOps C rc1 fc3 ops5 bs5 r 0 (.val 2 sl5 :: chks) ⟨tmR3 a b, []⟩ .none st4 :=
  draw_val (o := op5 2) (bi := 0) (by kernel_rfl) (by kernel_rfl) (by kernel_rfl) (by kernel_rfl) (by kernel_rfl) (by kernel_rfl) (by kernel_rfl) (by kernel_rfl)
theorem dr3 (r : List Nat) (chks : List Chk) : drawOps C rc1 fc3 ops5 bs5 (3 :: r) 0 chks ⟨tmR3 a b, []⟩ .none st4 = drawOps C rc1 fc3 ops5 bs5 r 0 (.val 3 (.int .i64 (.ofNat 9)) :: chks) ⟨tmR4 a b, []⟩ .none st4 :=
  draw_val (o := op5 3) (bi := 4) (by kernel_rfl) (by kernel_rfl) (by kernel_rfl) (by kernel_rfl) (by kernel_rfl) (by kernel_rfl) (by kernel_rfl) (by kernel_rfl)
theorem dr4 (r : List Nat) (chks : List Chk) : drawOps C rc1 fc3 ops5 bs5 (4 :: r) 0 chks ⟨tmR4 a b, []⟩ .none st4 = drawOps C rc1 fc3 ops5 bs5 r 0 (.val 4 (.int .i64 (Int.tmod (IntKind.i64.wrap (.ofNat a)) (.ofNat 9))) :: chks) ⟨tmR5 a b, []⟩ .none st4 :=
  draw_val (o := op5 4) (bi := 15) (by kernel_rfl) (by kernel_rfl) (by kernel_rfl) (by kernel_rfl) (by kernel_rfl) (by kernel_rfl) (by kernel_rfl) (by kernel_rfl)
theorem dr5 (r : List Nat) (chks : List Chk) : drawOps C rc1 fc3 ops5 bs5 (5 :: r) 0 chks ⟨tmR5 a b, []⟩ .none st4 = drawOps C rc1 fc3 ops5 bs5 r 0 (.val 5 (.int .u8 (.ofNat b)) :: chks) ⟨tmR6 a b, []⟩ .none st4 :=
  draw_val (o := op5 5) (bi := 0) (by kernel_rfl) (by kernel_rfl) (by kernel_rfl) (by kernel_rfl) (by kernel_rfl) (by kernel_rfl) (by kernel_rfl) (by kernel_rfl)
theorem dr6 (r : List Nat) (chks : List Chk) : drawOps C rc1 fc3 ops5 bs5 (6 :: r) 0 chks ⟨tmR6 a b, []⟩ .none st4 = drawOps C rc1 fc3 ops5 bs5 r 0 (.val 6 (.int .i64 (IntKind.i64.wrap (.ofNat b))) :: chks) ⟨tmR7 a b, []⟩ .none st4 :=
  draw_val (o := op5 6) (bi := 32) (by kernel_rfl) (by kernel_rfl) (by kernel_rfl) (by kernel_rfl) (by kernel_rfl) (by kernel_rfl) (by kernel_rfl) (by kernel_rfl)
theorem dr7 (r : List Nat) (chks : List Chk) : drawOps C rc1 fc3 ops5 bs5 (7 :: r) 0 chks ⟨tmR7 a b, []⟩ .none st4 = drawOps C rc1 fc3 ops5 bs5 r 0 (.val 7 sl5 :: chks) ⟨tmR8 a b, []⟩ .none st4 :=
  draw_val (o := op5 7) (bi := 0) (by kernel_rfl) (by kernel_rfl) (by kernel_rfl) (by kernel_rfl) (by kernel_rfl) (by kernel_rfl) (by kernel_rfl) (by kernel_rfl)
theorem dr8 (r : List Nat) (chks : List Chk) : drawOps C rc1 fc3 ops5 bs5 (8 :: r) 0 chks ⟨tmR8 a b, []⟩ .none st4 = drawOps C rc1 fc3 ops5 bs5 r 0 (.val 8 (.int .i64 (.ofNat 9)) :: chks) ⟨tmR9 a b, []⟩ .none st4 :=
  draw_val (o := op5 8) (bi := 128) (by kernel_rfl) (by kernel_rfl) (by kernel_rfl) (by kernel_rfl) (by kernel_rfl) (by kernel_rfl) (by kernel_rfl) (by kernel_rfl)
theorem dr9 (r : List Nat) (chks : List Chk) : drawOps C rc1 fc3 ops5 bs5 (9 :: r) 0 chks ⟨tmR9 a b, []⟩ .none st4 = drawOps C rc1 fc3 ops5 bs5 r 0 (.val 9 (.int .i64 (Int.tmod (IntKind.i64.wrap (.ofNat b)) (.ofNat 9))) :: chks) ⟨tmR10 a b, []⟩ .none st4 :=
  draw_val (o := op5 9) (bi := 480) (by kernel_rfl) (by kernel_rfl) (by kernel_rfl) (by kernel_rfl) (by kernel_rfl) (by kernel_rfl) (by kernel_rfl) (by kernel_rfl)
def chks5 : List Chk := [.val 9 (.int .i64 (Int.tmod (IntKind.i64.wrap (.ofNat b)) (.ofNat 9))), .val 8 (.int .i64 (.ofNat 9)), .val 7 sl5, .val 6 (.int .i64 (IntKind.i64.wrap (.ofNat b))), .val 5 (.int .u8 (.ofNat b)), .val 4 (.int .i64 (Int.tmod (IntKind.i64.wrap (.ofNat a)) (.ofNat 9))), .val 3 (.int .i64 (.ofNat 9)), .val 2 sl5, .val 1 (.int .i64 (IntKind.i64.wrap (.ofNat a))), .val 0 (.int .u8 (.ofNat a))]
theorem sd10_0 : stands C ops5 ⟨tmR10 a b, []⟩ st4 (.val 0 (.int .u8 (.ofNat a))) = true :=
  stands_val (o := op5 0) (d := 21) (st' := st4) (by kernel_rfl) (by kernel_rfl) (by kernel_rfl) (by kernel_rfl) (by kernel_rfl) (by kernel_rfl) (by kernel_rfl) (veq_int _ _)
theorem sd10_1 : stands C ops5 ⟨tmR10 a b, []⟩ st4 (.val 1 (.int .i64 (IntKind.i64.wrap (.ofNat a)))) = true :=
  stands_val (o := op5 1) (d := 22) (st' := st4) (by kernel_rfl) (by kernel_rfl) (by kernel_rfl) (by kernel_rfl) (by kernel_rfl) (by kernel_rfl) (by kernel_rfl) (veq_int _ _)
theorem sd10_2 : stands C ops5 ⟨tmR10 a b, []⟩ st4 (.val 2 sl5) = true :=
  stands_val (o := op5 2) (d := 23) (st' := st4) (by kernel_rfl) (by kernel_rfl) (by kernel_rfl) (by kernel_rfl) (by kernel_rfl) (by kernel_rfl) (by kernel_rfl) (by kernel_rfl)
theorem sd10_3 : stands C ops5 ⟨tmR10 a b, []⟩ st4 (.val 3 (.int .i64 (.ofNat 9))) = true :=
  stands_val (o := op5 3) (d := 24) (st' := st4) (by kernel_rfl) (by kernel_rfl) (by kernel_rfl) (by kernel_rfl) (by kernel_rfl) (by kernel_rfl) (by kernel_rfl) (veq_int _ _)
theorem sd10_4 : stands C ops5 ⟨tmR10 a b, []⟩ st4 (.val 4 (.int .i64 (Int.tmod (IntKind.i64.wrap (.ofNat a)) (.ofNat 9)))) = true :=
  stands_val (o := op5 4) (d := 25) (st' := st4) (by kernel_rfl) (by kernel_rfl) (by kernel_rfl) (by kernel_rfl) (by kernel_rfl) (by kernel_rfl) (by kernel_rfl) (veq_int _ _)
theorem sd10_5 : stands C ops5 ⟨tmR10 a b, []⟩ st4 (.val 5 (.int .u8 (.ofNat b))) = true :=
  stands_val (o := op5 5) (d := 26) (st' := st4) (by kernel_rfl) (by kernel_rfl) (by kernel_rfl) (by kernel_rfl) (by kernel_rfl) (by kernel_rfl) (by kernel_rfl) (veq_int _ _)
theorem sd10_6 : stands C ops5 ⟨tmR10 a b, []⟩ st4 (.val 6 (.int .i64 (IntKind.i64.wrap (.ofNat b)))) = true :=
  stands_val (o := op5 6) (d := 27) (st' := st4) (by kernel_rfl) (by kernel_rfl) (by kernel_rfl) (by kernel_rfl) (by kernel_rfl) (by kernel_rfl) (by kernel_rfl) (veq_int _ _)
theorem sd10_7 : stands C ops5 ⟨tmR10 a b, []⟩ st4 (.val 7 sl5) = true :=
  stands_val (o := op5 7) (d := 28) (st' := st4) (by kernel_rfl) (by kernel_rfl) (by kernel_rfl) (by kernel_rfl) (by kernel_rfl) (by kernel_rfl) (by kernel_rfl) (by kernel_rfl)
theorem sd10_8 : stands C ops5 ⟨tmR10 a b, []⟩ st4 (.val 8 (.int .i64 (.ofNat 9))) = true :=
  stands_val (o := op5 8) (d := 29) (st' := st4) (by kernel_rfl) (by kernel_rfl) (by kernel_rfl) (by kernel_rfl) (by kernel_rfl) (by kernel_rfl) (by kernel_rfl) (veq_int _ _)
theorem sd10_9 : stands C ops5 ⟨tmR10 a b, []⟩ st4 (.val 9 (.int .i64 (Int.tmod (IntKind.i64.wrap (.ofNat b)) (.ofNat 9)))) = true :=
  stands_val (o := op5 9) (d := 30) (st' := st4) (by kernel_rfl) (by kernel_rfl) (by kernel_rfl) (by kernel_rfl) (by kernel_rfl) (by kernel_rfl) (by kernel_rfl) (veq_int _ _)
theorem sd11_5 : stands C ops5 ⟨tmR11 a b, []⟩ st4 (.val 5 (.int .u8 (.ofNat b))) = true :=
  stands_val (o := op5 5) (d := 26) (st' := st4) (by kernel_rfl) (by kernel_rfl) (by kernel_rfl) (by kernel_rfl) (by kernel_rfl) (by kernel_rfl) (by kernel_rfl) (veq_int _ _)
theorem sd11_6 : stands C ops5 ⟨tmR11 a b, []⟩ st4 (.val 6 (.int .i64 (IntKind.i64.wrap (.ofNat b)))) = true :=
  stands_val (o := op5 6) (d := 27) (st' := st4) (by kernel_rfl) (by kernel_rfl) (by kernel_rfl) (by kernel_rfl) (by kernel_rfl) (by kernel_rfl) (by kernel_rfl) (veq_int _ _)
theorem sd11_7 : stands C ops5 ⟨tmR11 a b, []⟩ st4 (.val 7 sl5) = true :=
  stands_val (o := op5 7) (d := 28) (st' := st4) (by kernel_rfl) (by kernel_rfl) (by kernel_rfl) (by kernel_rfl) (by kernel_rfl) (by kernel_rfl) (by kernel_rfl) (by kernel_rfl)
theorem sd11_8 : stands C ops5 ⟨tmR11 a b, []⟩ st4 (.val 8 (.int .i64 (.ofNat 9))) = true :=
  stands_val (o := op5 8) (d := 29) (st' := st4) (by kernel_rfl) (by kernel_rfl) (by kernel_rfl) (by kernel_rfl) (by kernel_rfl) (by kernel_rfl) (by kernel_rfl) (veq_int _ _)
theorem sd11_9 : stands C ops5 ⟨tmR11 a b, []⟩ st4 (.val 9 (.int .i64 (Int.tmod (IntKind.i64.wrap (.ofNat b)) (.ofNat 9)))) = true :=
  stands_val (o := op5 9) (d := 30) (st' := st4) (by kernel_rfl) (by kernel_rfl) (by kernel_rfl) (by kernel_rfl) (by kernel_rfl) (by kernel_rfl) (by kernel_rfl) (veq_int _ _)
theorem rk10 : recheck C ops5 ⟨tmR10 a b, []⟩ st4 0 (chks5 a b) = true :=
  recheck_stands (sd10_9 a b) (recheck_stands (sd10_8 a b) (recheck_stands (sd10_7 a b) (recheck_stands (sd10_6 a b) (recheck_stands (sd10_5 a b) (recheck_stands (sd10_4 a b) (recheck_stands (sd10_3 a b) (recheck_stands (sd10_2 a b) (recheck_stands (sd10_1 a b) (recheck_stands (sd10_0 a b) (rfl))))))))))
theorem rk11 : recheck C ops5 ⟨tmR11 a b, []⟩ st4 31 (chks5 a b) = true :=
  recheck_stands (sd11_9 a b) (recheck_stands (sd11_8 a b) (recheck_stands (sd11_7 a b) (recheck_stands (sd11_6 a b) (recheck_stands (sd11_5 a b) (recheck_bit (by kernel_rfl) (recheck_bit (by kernel_rfl) (recheck_bit (by kernel_rfl) (recheck_bit (by kernel_rfl) (recheck_bit (by kernel_rfl) (rfl))))))))))
theorem rk12 : recheck C ops5 ⟨tmR12 a b, []⟩ st4 2047 (chks5 a b) = true :=
  recheck_bit (by kernel_rfl) (recheck_bit (by kernel_rfl) (recheck_bit (by kernel_rfl) (recheck_bit (by kernel_rfl) (recheck_bit (by kernel_rfl) (recheck_bit (by kernel_rfl) (recheck_bit (by kernel_rfl) (recheck_bit (by kernel_rfl) (recheck_bit (by kernel_rfl) (recheck_bit (by kernel_rfl) (rfl))))))))))
theorem dr10 (r : List Nat) : drawOps C rc1 fc3 ops5 bs5 (10 :: r) 0 (chks5 a b) ⟨tmR10 a b, []⟩ .none st4 = drawOps C rc1 fc3 ops5 bs5 r 31 (chks5 a b) ⟨tmR11 a b, []⟩ .none st4 :=
  draw_eff (o := op5 10) (by kernel_rfl) (by kernel_rfl) (by kernel_rfl) (rk10 a b) (by kernel_rfl)
theorem dr11 (r : List Nat) : drawOps C rc1 fc3 ops5 bs5 (11 :: r) 31 (chks5 a b) ⟨tmR11 a b, []⟩ .none st4 = drawOps C rc1 fc3 ops5 bs5 r 2047 (chks5 a b) ⟨tmR12 a b, []⟩ .none st4 :=
  draw_eff (o := op5 11) (by kernel_rfl) (by kernel_rfl) (by kernel_rfl) (rk11 a b) (by kernel_rfl)
theorem dr_all : drawOps C rc1 fc3 ops5 bs5 [0, 1, 2, 3, 4, 5, 6, 7, 8, 9, 10, 11] 0 [] ⟨tmR0 a b, []⟩ .none st4 = some (.norm, ⟨tmR12 a b, []⟩, .none, st4) := by
  rw [dr0, dr1, dr2, dr3, dr4, dr5, dr6, dr7, dr8, dr9]
  exact (dr10 a b _).trans ((dr11 a b _).trans (draw_end (rk12 a b)))

theorem step5 : code C rc1 fc3 c4 ⟨tm4 (.int .u8 (.ofNat a)) (.int .u8 (.ofNat b)), []⟩ .none st4 = code C rc1 fc3 c5 ⟨tm5 (.int .u8 (.ofNat a)) (.int .u8 (.ofNat b)) (.int .i64 (IntKind.i64.wrap (.ofNat a))) (.int .i64 (IntKind.i64.wrap (.ofNat b))) (.int .i64 (Int.tmod (IntKind.i64.wrap (.ofNat a)) (.ofNat 9))) (.int .i64 (Int.tmod (IntKind.i64.wrap (.ofNat b)) (.ofNat 9))), []⟩ .none st4 := by
  have e4 : c4 = .seq (sL c4) c5 := by kernel_rfl
  conv => lhs; rw [e4]
  refine code_seq_norm ?_
  have hreg : code C rc1 fc3 (sL c4) ⟨tmR0 a b, []⟩ .none st4 = match drawOps C rc1 fc3 ops5 bs5 [0, 1, 2, 3, 4, 5, 6, 7, 8, 9, 10, 11] 0 [] ⟨tmR0 a b, []⟩ .none st4 with
      | some (.norm, fr, ps, st) => some (.norm, fr, ps, st)
      | r => r := by kernel_rfl
  rw [dr_all] at hreg
  exact hreg

end

theorem wrap_byte {a : Nat} (h : a < 256) : Int.tmod (IntKind.i64.wrap (.ofNat a)) (.ofNat 9) = .ofNat (a % 9) := by
  have e : IntKind.i64.wrap (.ofNat a) = .ofNat a := by
    unfold IntKind.wrap
    simp [IntKind.signed, IntKind.bits]
    omega
  rw [e]
  rfl

/-- the law's body at any two bytes is the run behind region 5 -/
theorem body_run {a b : Nat} (ha : a < 256) (hb : b < 256) (h : ∀ A B x y, run5 A B x y (a % 9) (b % 9) = true) :
    isTrue (fin3 (code C rc1 fc3 c0 ⟨tm0 (.int .u8 (.ofNat a)) (.int .u8 (.ofNat b)), []⟩ .none st0)) = true := by
  rw [to4, step5, wrap_byte ha, wrap_byte hb]
  exact h _ _ _ _

end Go.Proofs.YtaefjijnnbcjbaaGreatDoor
