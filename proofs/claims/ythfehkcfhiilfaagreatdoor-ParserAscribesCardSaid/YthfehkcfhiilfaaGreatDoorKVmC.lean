/- The lifted machine: regions, code. -/
import Derived.Test.YthfehkcfhiilfaaGreatDoorKVmB
namespace Go.VM set_option linter.unusedSimpArgs false set_option linter.unusedVariables false
open Go.AM
abbrev Tm := List (Nat × V)
def eraseCR (ρ : Nat -> Nat) : VCR -> CR
 | .ret v => .ret (erase ρ v)
 | .pan v => .pan (erase ρ v)
def CROk (Φ : Fz) (m : Nat) : VCR -> Prop
 | .ret v => VOk Φ m v
 | .pan v => VOk Φ m v
def erasePs (ρ : Nat -> Nat) : VPs -> PanS
 | .none => .none
 | .pend v => .pend (erase ρ v)
 | .recd => .recd
def PsOk (Φ : Fz) (m : Nat) : VPs -> Prop
 | .none => True
 | .pend v => VOk Φ m v
 | .recd => True
def eraseEx (ρ : Nat -> Nat) : VEx -> Ex
 | .norm => .norm
 | .exit id => .exit id
 | .ret => .ret
 | .panic v => .panic (erase ρ v)
def ExOk (Φ : Fz) (m : Nat) : VEx -> Prop
 | .panic v => VOk Φ m v
 | _ => True
def eraseFC (ρ : Nat -> Nat) (fc : VFC) : FC := ⟨fc.fn, fc.nt, fc.round.map ρ, fc.dfd⟩
def FcOk (m : Nat) (fc : VFC) : Prop := (∀ l, fc.round = some l -> l < fc.fl) /\ fc.fl <= m
structure VCall (C : Ctx) (intr : FuncId -> List Value -> Option Value) (f : FuncId) (args : List V) (σ : VS) (K : VCR -> VS -> Prop) : Prop where
 go : ∀ Φ ρ st, Real Φ ρ σ st -> VsOk Φ σ.length args -> ∃ n r ps' st' Φ' ρ' σ', (recN C intr n).call f (eraseL ρ args) false .none st = some (eraseCR ρ' r, ps', st') /\
  Stp Φ ρ σ.length Φ' ρ' σ'.length /\ Real Φ' ρ' σ' st' /\ CROk Φ' σ'.length r /\ K r σ'
structure VCallD (C : Ctx) (intr : FuncId -> List Value -> Option Value) (f : FuncId) (args : List V) (ps : VPs) (σ : VS) (K : VCR -> VPs -> VS -> Prop) : Prop where
 go : ∀ Φ ρ st, Real Φ ρ σ st -> VsOk Φ σ.length args -> PsOk Φ σ.length ps -> ∃ n r ps' st' Φ' ρ' σ', (recN C intr n).call f (eraseL ρ args) true (erasePs ρ ps) st = some (eraseCR ρ' r, erasePs ρ' ps', st') /\
  Stp Φ ρ σ.length Φ' ρ' σ'.length /\ Real Φ' ρ' σ' st' /\ CROk Φ' σ'.length r /\ PsOk Φ' σ'.length ps' /\ K r ps' σ'
structure VRound (C : Ctx) (intr : FuncId -> List Value -> Option Value) (l : Nat) (args : List V) (σ : VS) (K : VCR -> VS -> Prop) : Prop where
 go : ∀ Φ ρ st, Real Φ ρ σ st -> VsOk Φ σ.length args -> l < σ.length -> ∃ n r st' Φ' ρ' σ', (recN C intr n).round (ρ l) (eraseL ρ args) st = some (eraseCR ρ' r, st') /\
  Stp Φ ρ σ.length Φ' ρ' σ'.length /\ Real Φ' ρ' σ' st' /\ CROk Φ' σ'.length r /\ K r σ'
structure VCode (C : Ctx) (intr : FuncId -> List Value -> Option Value) (fc : VFC) (c : Code) (tm : Tm) (df : List VDef) (ps : VPs) (σ : VS) (Q : VEx -> Tm -> List VDef -> VPs -> VS -> Prop) : Prop where
 go : ∀ Φ ρ st fr, Real Φ ρ σ st -> TmRel Φ ρ σ.length tm fr.tm -> DfRel Φ ρ σ.length df fr.df -> PsOk Φ σ.length ps -> FcOk σ.length fc ->
  ∃ n x fr' tm' df' ps' st' Φ' ρ' σ', code C (recN C intr n) (eraseFC ρ fc) c fr (erasePs ρ ps) st = some (eraseEx ρ' x, fr', erasePs ρ' ps', st') /\
   Stp Φ ρ fc.fl Φ' ρ' σ'.length /\ Real Φ' ρ' σ' st' /\ TmRel Φ' ρ' σ'.length tm' fr'.tm /\ DfRel Φ' ρ' σ'.length df' fr'.df /\ PsOk Φ' σ'.length ps' /\ ExOk Φ' σ'.length x /\ Q x tm' df' ps' σ'
inductive VOR where
 | next (tm : Tm) (df : List VDef) (ps : VPs) (σ : VS)
 | pan (v : V) (tm : Tm) (df : List VDef) (ps : VPs) (σ : VS)
def vgo (nt : Nat) (tm : Tm) (dst : Option Tmp) (v : V) (k : Tm -> Prop) : Prop :=
 match dst with
 | none => k tm
 | some d => match Nat.blt d nt with
  | true => k ((d, v) :: tm)
  | false => False
def fzOf (fc : VFC) (dst : Option Tmp) : Bool :=
 match dst with
 | some d => fc.fz d
 | none => false
def vrunOp (C : Ctx) (intr : FuncId -> List Value -> Option Value) (fc : VFC) (o : Oper) (tm : Tm) (df : List VDef) (ps : VPs) (σ : VS) (K : VOR -> Prop) : Prop :=
 vop C (fzOf fc o.dst) (vev tm) o.op σ fun r => match r with
  | .val v σ' => vgo fc.nt tm o.dst v fun tm => K (.next tm df ps σ')
  | .pan v => K (.pan v tm df ps σ)
  | .enter f args => VCall C intr f args σ fun r σ' => match r with
   | .ret v => vgo fc.nt tm o.dst v fun tm => K (.next tm df ps σ')
   | .pan v => K (.pan v tm df ps σ')
  | .yield l args => VRound C intr l args σ fun r σ' => match r with
   | .ret v => vgo fc.nt tm o.dst v fun tm => K (.next tm df ps σ')
   | .pan v => K (.pan v tm df ps σ')
  | .recover => match fc.round with
   | some _ => False
   | none => match fc.dfd, ps with
    | true, .pend v => vgo fc.nt tm o.dst v fun tm => K (.next tm df .recd σ)
    | _, _ => vgo fc.nt tm o.dst (.d .nili) fun tm => K (.next tm df ps σ)
  | .defer d => match fc.round with
   | some _ => False
   | none => vgo fc.nt tm o.dst (.tup []) fun tm => K (.next tm (d :: df) ps σ)
def vwant (ops : List Oper) (tm : Tm) (o : Oper) (ky kn : Prop) : Prop :=
 match o.guard with
 | none => ky
 | some (j, want) => match nth ops j with
  | none => False
  | some oj => match oj.dst with
   | none => False
   | some d => match vlook tm d with
    | some (.d (.bool b)) => (match want with
     | true => vcond ky kn b
     | false => vcond kn ky b)
    | some (.tup _) => kn
    | _ => False
def vstepOp (C : Ctx) (intr : FuncId -> List Value -> Option Value) (fc : VFC) (ops : List Oper) (o : Oper) (tm : Tm) (df : List VDef) (ps : VPs) (σ : VS) (K : VOR -> Prop) : Prop :=
 vwant ops tm o (vrunOp C intr fc o tm df ps σ K) (vgo fc.nt tm o.dst (.tup []) fun tm => K (.next tm df ps σ))
abbrev VQ := VEx -> Tm -> List VDef -> VPs -> VS -> Prop
abbrev VK := Tm -> List VDef -> VPs -> VS -> VQ -> Prop
def vseqStep (C : Ctx) (intr : FuncId -> List Value -> Option Value) (fc : VFC) (ops : List Oper) (o : Oper) (k : VK) : VK :=
 fun tm df ps σ Q => vstepOp C intr fc ops o tm df ps σ fun x => match x with
  | .next tm df ps σ => k tm df ps σ Q
  | .pan v tm df ps σ => Q (.panic v) tm df ps σ
noncomputable def vseqOps (C : Ctx) (intr : FuncId -> List Value -> Option Value) (fc : VFC) (ops : List Oper) (l : List Oper) : VK :=
 List.rec (motive := fun _ => VK) (fun tm df ps σ Q => Q .norm tm df ps σ) (fun o _ ih => vseqStep C intr fc ops o ih) l
theorem vseqOps_cons (C : Ctx) (intr : FuncId -> List Value -> Option Value) (fc : VFC) (ops : List Oper) (o : Oper) (l : List Oper) : vseqOps C intr fc ops (o :: l) = vseqStep C intr fc ops o (vseqOps C intr fc ops l) := rfl
inductive VChk where
 | val (i : Nat) (v : V)
 | obj (i : Nat) (v : V) (ob : VObj) (j : Option Nat)
 | skip (i : Nat)
 | fresh (i : Nat) (v : V) (ob : VObj) (j : Nat)
 | never (i : Nat)
def VChk.idx : VChk -> Nat
 | .val i _ => i
 | .obj i _ _ _ => i
 | .skip i => i
 | .fresh i _ _ _ => i
 | .never i => i
def vharden : VChk -> VChk
 | .fresh i _ _ _ => .never i
 | c => c
noncomputable def vhardenL (l : List VChk) : List VChk := List.rec (motive := fun _ => List VChk) [] (fun c _ ih => vharden c :: ih) l
theorem vhardenL_cons (c : VChk) (l : List VChk) : vhardenL (c :: l) = vharden c :: vhardenL l := rfl
def vdst (tm : Tm) (dst : Option Tmp) (v : V) : Prop :=
 match dst with
 | none => True
 | some d => vlook tm d = some v
def vstands (C : Ctx) (ops : List Oper) (tm : Tm) (σ : VS) : VChk -> Prop
 | .val i v => match nth ops i with
  | some o => vwant ops tm o (vdst tm o.dst v /\ vopq C (vev tm) o.op σ fun u => u = v) False
  | none => False
 | .obj i v ob j => match nth ops i with
  | some o => vwant ops tm o (vdst tm o.dst v /\ vmake C (vev tm) o.op = some ob /\ (match j with | some j => nth σ j = some ob | none => True)) False
  | none => False
 | .skip i => match nth ops i with
  | some o => vwant ops tm o False (vdst tm o.dst (.tup []))
  | none => False
 | .fresh i v ob j => match nth ops i with
  | some o => vwant ops tm o (vdst tm o.dst v /\ vmake C (vev tm) o.op = some ob /\ nth σ j = some ob) False
  | none => False
 | .never _ => False
def tbit : Nat -> Nat -> Bool
 | b, 0 => Nat.beq (b % 2) 1
 | b, i + 1 => tbit (b / 2) i
theorem tbit_eq : ∀ (i b : Nat), tbit b i = Nat.testBit b i := by
 intro i
 induction i with
 | zero =>
  intro b
  simp only [tbit, Nat.testBit_zero]
  rw [Bool.eq_iff_iff, Nat.beq_eq, decide_eq_true_eq]
 | succ i ih => intro b; rw [tbit, ih, Nat.testBit_succ]
def vrecheck (C : Ctx) (ops : List Oper) (tm : Tm) (σ : VS) (b : Nat) : List VChk -> Prop
 | [] => True
 | c :: r => match tbit b c.idx with
  | true => vrecheck C ops tm σ b r
  | false => vstands C ops tm σ c /\ vrecheck C ops tm σ b r
def vdel (d : Nat) : Tm -> Tm
 | [] => []
 | (t, v) :: r => match Nat.beq t d with
  | true => vdel d r
  | false => (t, v) :: vdel d r
def veraseDsts : List Oper -> Tm -> Tm
 | [], tm => tm
 | o :: r, tm => match o.dst with
  | some d => match isEff o.op with
   | true => veraseDsts r tm
   | false => veraseDsts r (vdel d tm)
  | none => veraseDsts r tm
def isEmptySlice : Op -> Bool
 | .buildSlice _ 0 _ => true
 | _ => false
def vMakeD (C : Ctx) (ev : Operand -> Option V) (op : Op) (i : Nat) (σ : VS) (k : V -> VChk -> VS -> Prop) : Prop :=
 match vmake C ev op with
 | some ob => match isEmptySlice op with
  | true => vnew σ ob fun j σ' => vwith (vref op ob j) fun v => k v (.fresh i v ob j) σ'
  | false => match isSliceOp op with
   | true => match ob with
    | .row es els => match drows els with
     | some l => ∀ b : Nat, k (.d (.ps b 0 es l.length l)) (.obj i (.d (.ps b 0 es l.length l)) (.row es els) none) σ
     | none => False
    | _ => False
   | false => vnew σ ob fun j σ' => vwith (vref op ob j) fun v => k v (.obj i v ob (some j)) σ'
 | none => False
noncomputable def vdrawStep (C : Ctx) (intr : FuncId -> List Value -> Option Value) (fc : VFC) (ops : List Oper) (bs : List Nat) (i : Nat) (g : Nat -> List VChk -> VK) : Nat -> List VChk -> VK :=
 fun b chks tm df ps σ Q =>
  match nth ops i, nth bs i with
  | some o, some bi =>
   match isEff o.op with
   | true => vneed (vrecheck C ops tm σ b chks) (vstepOp C intr fc ops o tm df ps σ fun x => match x with
     | .pan v tm df ps σ => Q (.panic v) (veraseDsts ops tm) df ps σ
     | .next tm df ps σ => g bi (vhardenL chks) tm df ps σ Q)
   | false => vwant ops tm o
     (match isMaker o.op with
     | true => vMakeD C (vev tm) o.op i σ fun v c σ' => vgo fc.nt tm o.dst v fun tm => g b (c :: chks) tm df ps σ' Q
     | false => vopq C (vev tm) o.op σ fun v => vgo fc.nt tm o.dst v fun tm => g b (.val i v :: chks) tm df ps σ Q)
     (vgo fc.nt tm o.dst (.tup []) fun tm => g b (.skip i :: chks) tm df ps σ Q)
  | _, _ => False
noncomputable def vdrawOps (C : Ctx) (intr : FuncId -> List Value -> Option Value) (fc : VFC) (ops : List Oper) (bs : List Nat) (l : List Nat) : Nat -> List VChk -> VK :=
 List.rec (motive := fun _ => Nat -> List VChk -> VK) (fun b chks tm df ps σ Q => vneed (vrecheck C ops tm σ b chks) (Q .norm tm df ps σ)) (fun i _ ih => vdrawStep C intr fc ops bs i ih) l
theorem vdrawOps_cons (C : Ctx) (intr : FuncId -> List Value -> Option Value) (fc : VFC) (ops : List Oper) (bs : List Nat) (i : Nat) (l : List Nat) : vdrawOps C intr fc ops bs (i :: l) = vdrawStep C intr fc ops bs i (vdrawOps C intr fc ops bs l) := rfl
def isIdxAddr : Op -> Bool
 | .indexAddr _ _ _ => true
 | _ => false
def vtail3 (C : Ctx) (nt : Nat) (a s1 s2 : Oper) (tm : Tm) (df : List VDef) (ps : VPs) (σ : VS) (Q : VEx -> Tm -> List VDef -> VPs -> VS -> Prop) : Prop :=
 match a.dst, s1.dst, s2.dst, s1.op, s2.op, isIdxAddr a.op with
 | some d, none, none, .store t1 x1 y1, .store t2 x2 y2, true =>
  vopq C (vev tm) a.op σ fun v => vgo nt tm (some d) v fun tma =>
   vwith (vev tma x1) fun p1 => vwith (vev tma y1) fun u1 => vwith (vev (vdel d tm) x2) fun p2 => vwith (vev (vdel d tm) y2) fun u2 =>
   match p1, p2 with
   | .ptr i1 e1 k1 f1, .bp i2 f2 => vneed (vStore C t2 (.bp i2 f2) u2 σ fun σ' => vStore C t1 (.ptr i1 e1 k1 f1) u1 σ' fun _ => True)
     (vStore C t1 (.ptr i1 e1 k1 f1) u1 σ fun σ1 => vStore C t2 (.bp i2 f2) u2 σ1 fun σ2 => Q .norm tma df ps σ2)
   | _, _ => False
 | _, _, _, _, _, _ => False
noncomputable def vregion (C : Ctx) (intr : FuncId -> List Value -> Option Value) (fc : VFC) (ops : Array Oper) (draw : Bool) (tm : Tm) (df : List VDef) (ps : VPs) (σ : VS) (Q : VEx -> Tm -> List VDef -> VPs -> VS -> Prop) : Prop :=
 match draw with
 | false => vseqOps C intr fc ops.toList ops.toList tm df ps σ Q
 | true => match plan ops.toList with
  | ⟨bs, m, order⟩ => vdrawOps C intr fc ops.toList bs order 0 [] tm df ps σ fun x tm df ps σ => match x with
   | .norm => (match Nat.beq m ops.toList.length with
    | true => Q .norm tm df ps σ
    | false => match ops.toList.drop m, nth bs (m + 1) with
     | [a, s1, s2], some b1 => (match tbit b1 m with
      | true => vtail3 C fc.nt a s1 s2 tm df ps σ Q
      | false => False)
     | _, _ => False)
   | x => Q x tm df ps σ
def vjump : Option Code -> Option VEx
 | none => some .norm
 | some .ret => some .ret
 | some (.exit id) => some (.exit id)
 | _ => none
def vrange (C : Ctx) (intr : FuncId -> List Value -> Option Value) (g : FuncId) (first capt : List V) (li : Nat) (tm : Tm) (df : List VDef) (ps : VPs) (σ : VS) (Q : VEx -> Tm -> List VDef -> VPs -> VS -> Prop) : Prop :=
 match C.ff.get g with
 | none => False
 | some _ => VCall C intr g (first ++ [.yld li] ++ capt) σ fun r σ' => match r with
  | .ret _ => (match nth σ' li with
   | some (.loop L) => (match L.state with
    | .busy => False
    | _ => vwith (vjump L.pending) fun x => vset σ' li (.loop { L with state := .exhausted }) fun σ'' => Q x tm df ps σ'')
   | _ => False)
  | .pan v => Q (.panic v) tm df ps σ'
def cutAt (fc : VFC) : Code -> Bool
 | .region id _ _ => fc.fz (1000000 + id)
 | .seq a _ => cutAt fc a
 | _ => false
def vcSeq (cut : Bool) (ka kb kv : VK) : VK := fun tm df ps σ Q => ka tm df ps σ fun x tm df ps σ => match x with
  | .norm => (match cut with
   | true => kv tm df ps σ Q
   | false => kb tm df ps σ Q)
  | x => Q x tm df ps σ
def vcCond (c : Operand) (ka kb : VK) : VK := fun tm df ps σ Q => match vev tm c with
  | some (.d (.bool t)) => vcond (ka tm df ps σ Q) (kb tm df ps σ Q) t
  | _ => False
def vcBlock (id : Nat) (k : VK) : VK := fun tm df ps σ Q => k tm df ps σ fun x tm df ps σ => match x with
  | .exit id' => (match Nat.beq id' id with
   | true => Q .norm tm df ps σ
   | false => Q (.exit id') tm df ps σ)
  | x => Q x tm df ps σ
def vcRange (C : Ctx) (intr : FuncId -> List Value -> Option Value) (fc : VFC) (f : Operand) (params : Array Tmp) (assign body : Code) : VK := fun tm df ps σ Q => match vev tm f with
  | some (.fn g first capt) => (match fc.round with
   | some l => (match nth σ l with
    | some (.loop L) => vnew σ (.loop ⟨.ready, none, fc.fn, tm, fc.nt, params.toList, assign, body, L.defers, fc.fz⟩) fun li σ' => vrange C intr g first capt li tm df ps σ' Q
    | _ => False)
   | none => vnew σ (.defl false) fun r σ1 => vnew σ1 (.loop ⟨.ready, none, fc.fn, tm, fc.nt, params.toList, assign, body, r, fc.fz⟩) fun li σ2 => vrange C intr g first capt li tm (⟨.coll r, []⟩ :: df) ps σ2 Q)
  | _ => False
noncomputable def vc (C : Ctx) (intr : FuncId -> List Value -> Option Value) (fc : VFC) (c : Code) : VK :=
 Code.rec (motive := fun _ => VK)
  (fun tm df ps σ Q => Q .norm tm df ps σ)
  (fun _ ops draw tm df ps σ Q => vregion C intr fc ops draw tm df ps σ Q)
  (fun _ b ka kb => vcSeq (cutAt fc b) ka kb (VCode C intr fc b))
  (fun c _ _ ka kb => vcCond c ka kb)
  (fun id _ k => vcBlock id k)
  (fun b _ tm df ps σ Q => VCode C intr fc (.loop b) tm df ps σ Q)
  (fun f params assign body _ _ => vcRange C intr fc f params assign body)
  (fun id tm df ps σ Q => Q (.exit id) tm df ps σ)
  (fun _ _ _ _ _ _ _ => False)
  (fun _ _ _ _ _ _ => False)
  (fun _ _ _ _ _ _ => False)
  (fun tm df ps σ Q => Q .ret tm df ps σ)
  (fun _ _ _ _ _ _ => False)
  c
theorem vc_seq (C : Ctx) (intr : FuncId -> List Value -> Option Value) (fc : VFC) (a b : Code) : vc C intr fc (.seq a b) = vcSeq (cutAt fc b) (vc C intr fc a) (vc C intr fc b) (VCode C intr fc b) := rfl
theorem vc_cond (C : Ctx) (intr : FuncId -> List Value -> Option Value) (fc : VFC) (c : Operand) (a b : Code) : vc C intr fc (.cond c a b) = vcCond c (vc C intr fc a) (vc C intr fc b) := rfl
theorem vc_range (C : Ctx) (intr : FuncId -> List Value -> Option Value) (fc : VFC) (f : Operand) (params : Array Tmp) (assign body : Code) : vc C intr fc (.rangeFunc f params assign body) = vcRange C intr fc f params assign body := rfl
inductive VMode where
 | returning
 | panicking (v : V)
def psOf : VMode -> VPs
 | .returning => .none
 | .panicking v => .pend v
def modeAfter : VMode -> VPs -> VMode
 | .returning, _ => .returning
 | .panicking _, .recd => .returning
 | .panicking v, _ => .panicking v
def vunwind (C : Ctx) (intr : FuncId -> List Value -> Option Value) : List VDef -> VMode -> VS -> (VMode -> VS -> Prop) -> Prop
 | [], m, σ, k => k m σ
 | ⟨.coll r, _⟩ :: ds, m, σ, k => match nth σ r with
  | some (.defl false) => vset σ r (.defl true) fun σ => vunwind C intr ds m σ k
  | _ => False
 | ⟨.fn f capt, args⟩ :: ds, m, σ, k => match C.ff.get f with
  | some _ => VCallD C intr f (args ++ capt) (psOf m) σ fun r ps σ => match r with
   | .ret _ => vunwind C intr ds (modeAfter m ps) σ k
   | .pan _ => False
  | none => False
def vresVals (C : Ctx) (tm : Tm) (σ : VS) : List ResultVar -> (List V -> Prop) -> Prop
 | [], k => k []
 | .tmp t :: l, k => vwith (vlook tm t) fun v => vresVals C tm σ l fun vs => k (v :: vs)
 | .cell a t :: l, k => vwith (vlook tm a) fun p => vLoad C t p σ fun v => vresVals C tm σ l fun vs => k (v :: vs)
def vfinishV : List V -> V
 | [v] => v
 | vs => .tup vs
def vfinish (C : Ctx) (intr : FuncId -> List Value -> Option Value) (res : List ResultVar) (m : VMode) (tm : Tm) (df : List VDef) (σ : VS) (K : VCR -> VS -> Prop) : Prop :=
 vunwind C intr df m σ fun m σ => match m with
  | .panicking v => K (.pan v) σ
  | .returning => vresVals C tm σ res fun vs => K (.ret (vfinishV vs)) σ
def vparams : Nat -> List V -> Tm
 | _, [] => []
 | i, v :: l => (i, v) :: vparams (i + 1) l
noncomputable def vbody (C : Ctx) (intr : FuncId -> List Value -> Option Value) (fz : Nat -> Bool) (f : FuncId) (args : List V) (dfd : Bool) (ps : VPs) (σ : VS) (K : VCR -> VPs -> VS -> Prop) : Prop :=
 match C.ff.get f with
 | none => False
 | some fi => match Nat.ble args.length fi.nt with
  | false => False
  | true => vc C intr ⟨f, fi.nt, none, dfd, fz, σ.length⟩ fi.body (vparams 0 args) [] ps σ fun x tm df ps σ => match x with
   | .norm => vfinish C intr fi.res .returning tm df σ fun r σ => K r ps σ
   | .ret => vfinish C intr fi.res .returning tm df σ fun r σ => K r ps σ
   | .panic v => vfinish C intr fi.res (.panicking v) tm df σ fun r σ => K r ps σ
   | .exit _ => False
def vsetParams : List Tmp -> List V -> Nat -> Tm -> (Tm -> Prop) -> Prop
 | [], [], _, tm, k => k tm
 | t :: ts, v :: vs, nt, tm, k => match Nat.blt t nt with
  | true => vsetParams ts vs nt ((t, v) :: tm) k
  | false => False
 | _, _, _, _, _ => False
def vroundEnd (l : Nat) (b : Bool) (st : LoopState) (pending : Option Code) (df : List VDef) (σ : VS) (K : VCR -> VS -> Prop) : Prop :=
 match df, nth σ l with
 | [], some (.loop L) => vset σ l (.loop { L with state := st, pending := pending }) fun σ => K (.ret (.d (.bool b))) σ
 | _, _ => False
noncomputable def vroundN (C : Ctx) (intr : FuncId -> List Value -> Option Value) (n0 l : Nat) (args : List V) (σ : VS) (K : VCR -> VS -> Prop) : Prop :=
 match nth σ l with
 | some (.loop L) => match C.ff.get L.fn with
  | none => False
  | some _ => vsetParams L.params args L.nt L.tm fun tm =>
   vc C intr ⟨L.fn, L.nt, some l, false, L.fz, n0⟩ L.assign tm [] .none σ fun x tm df _ σ => match x with
    | .norm => (match nth σ l with
     | some (.loop L1) => (match L1.state with
      | .ready => vset σ l (.loop { L1 with state := .busy }) fun σ =>
        vc C intr ⟨L.fn, L.nt, some l, false, L.fz, n0⟩ L.body tm df .none σ fun x _ df _ σ => match x with
         | .norm => vroundEnd l true .ready none df σ K
         | .ret => vroundEnd l false .done (some .ret) df σ K
         | .exit id => vroundEnd l false .done (some (.exit id)) df σ K
         | .panic v => (match df with
          | [] => K (.pan v) σ
          | _ => False)
      | _ => False)
     | _ => False)
    | _ => False
 | _ => False
noncomputable def vround (C : Ctx) (intr : FuncId -> List Value -> Option Value) (l : Nat) (args : List V) (σ : VS) (K : VCR -> VS -> Prop) : Prop := vroundN C intr σ.length l args σ K
section
variable {C : Ctx} {intr : FuncId -> List Value -> Option Value} {Φ Φ' : Fz} {ρ ρ' : Nat -> Nat} {σ : VS} {st : St} {m m' : Nat}
theorem vlook_cons (d t : Nat) (v : V) (tm : Tm) : vlook ((d, v) :: tm) t = if t = d then some v else vlook tm t := by
 simp only [vlook, beq_dec]
 by_cases h : t = d
 ·subst h; simp
 ·rw [decide_eq_false (fun e => h e.symm), if_neg h]
theorem TmRel.set {tm : Tm} {t : Tr Value} (h : TmRel Φ ρ m tm t) {d : Nat} {v : V} (hv : VOk Φ m v) : TmRel Φ ρ m ((d, v) :: tm) (t.set d (erase ρ v)) := by
 intro i u hu
 rw [vlook_cons] at hu
 rw [Tr.get_set]
 split at hu
 ·rename_i e
  cases hu
  rw [if_pos e]
  exact ⟨rfl, hv⟩
 ·rename_i e
  rw [if_neg e]
  exact h i u hu
theorem vgo_elim {nt : Nat} {tm : Tm} {dst : Option Tmp} {v : V} {k : Tm -> Prop} (hk : vgo nt tm dst v k) {fr : Fr} (ht : TmRel Φ ρ m tm fr.tm) (hv : VOk Φ m v) :
  ∃ tm' fr', k tm' /\ setDst nt fr dst (erase ρ v) = some fr' /\ TmRel Φ ρ m tm' fr'.tm /\ fr'.df = fr.df := by
 unfold vgo at hk
 split at hk
 ·exact ⟨tm, fr, hk, rfl, ht, rfl⟩
 ·rename_i d
  split at hk
  ·rename_i hb
   exact ⟨_, { fr with tm := fr.tm.set d (erase ρ v) }, hk, by simp only [setDst, hb], ht.set hv, rfl⟩
  ·exact hk.elim
theorem Stp.ps (h : Stp Φ ρ m Φ' ρ' m') {ps : VPs} (hp : PsOk Φ m ps) : erasePs ρ' ps = erasePs ρ ps /\ PsOk Φ' m' ps := by
 cases ps with
 | none => exact ⟨rfl, trivial⟩
 | pend v => exact ⟨by simp only [erasePs, h.erase hp], h.ok hp⟩
 | recd => exact ⟨rfl, trivial⟩
theorem Stp.weaken (h : Stp Φ ρ m Φ' ρ' m') {k : Nat} (hk : k <= m) : Stp Φ ρ k Φ' ρ' m' := ⟨h.le, fun i hi => h.rho i (Nat.lt_of_lt_of_le hi hk), Nat.le_trans hk h.len⟩
theorem Stp.then {Φ2 : Fz} {ρ2 : Nat -> Nat} {m1 m2 : Nat} (h : Stp Φ ρ m Φ' ρ' m') (k : Stp Φ' ρ' m1 Φ2 ρ2 m2) (hm : m <= m1) : Stp Φ ρ m Φ2 ρ2 m2 :=
 ⟨h.le.trans k.le, fun i hi => (k.rho i (Nat.lt_of_lt_of_le hi hm)).trans (h.rho i hi), Nat.le_trans hm k.len⟩
theorem Stp.fcl {fc : VFC} (h : Stp Φ ρ fc.fl Φ' ρ' m') (hf : FcOk m fc) : eraseFC ρ' fc = eraseFC ρ fc /\ FcOk m' fc := by
 refine ⟨?_, hf.1, h.len⟩
 unfold eraseFC
 cases hr : fc.round with
 | none => rfl
 | some l => simp only [Option.map_some]; rw [h.rho l (hf.1 l hr)]
theorem Stp.fc (h : Stp Φ ρ m Φ' ρ' m') {fc : VFC} (hf : FcOk m fc) : eraseFC ρ' fc = eraseFC ρ fc /\ FcOk m' fc := (h.weaken hf.2).fcl hf
structure SR (Φ : Fz) (ρ : Nat -> Nat) (σ : VS) (st : St) (tm : Tm) (df : List VDef) (ps : VPs) (fr : Fr) : Prop where
 real : Real Φ ρ σ st
 tm : TmRel Φ ρ σ.length tm fr.tm
 df : DfRel Φ ρ σ.length df fr.df
 ps : PsOk Φ σ.length ps
inductive OR' (Φ : Fz) (ρ : Nat -> Nat) (m : Nat) (K : VOR -> Prop) (r : OpR) : Prop
 | next (Φ' : Fz) (ρ' : Nat -> Nat) (σ' : VS) (st' : St) (tm : Tm) (df : List VDef) (ps : VPs) (fr : Fr) (hk : K (.next tm df ps σ')) (hs : Stp Φ ρ m Φ' ρ' σ'.length) (h : SR Φ' ρ' σ' st' tm df ps fr)
   (hr : r = .next fr (erasePs ρ' ps) st')
 | pan (v : V) (Φ' : Fz) (ρ' : Nat -> Nat) (σ' : VS) (st' : St) (tm : Tm) (df : List VDef) (ps : VPs) (fr : Fr) (hk : K (.pan v tm df ps σ')) (hs : Stp Φ ρ m Φ' ρ' σ'.length) (h : SR Φ' ρ' σ' st' tm df ps fr) (hv : VOk Φ' σ'.length v)
   (hr : r = .pan (erase ρ' v) fr (erasePs ρ' ps) st')
theorem SR.move {tm : Tm} {df : List VDef} {ps : VPs} {fr : Fr} (h : SR Φ ρ σ st tm df ps fr) {σ' : VS} {st' : St} (hs : Stp Φ ρ σ.length Φ' ρ' σ'.length) (hr : Real Φ' ρ' σ' st') : SR Φ' ρ' σ' st' tm df ps fr :=
 ⟨hr, hs.tm h.tm, hs.df h.df, (hs.ps h.ps).2⟩
theorem go_out {fc : VFC} {tm : Tm} {df : List VDef} {ps : VPs} {fr : Fr} {dst : Option Tmp} {v : V} {K : VOR -> Prop} {m0 : Nat} {Φ0 : Fz} {ρ0 : Nat -> Nat} (hs : Stp Φ0 ρ0 m0 Φ ρ σ.length)
  (hk : vgo fc.nt tm dst v fun tm => K (.next tm df ps σ)) (h : SR Φ ρ σ st tm df ps fr) (hv : VOk Φ σ.length v) : ∃ r, OpR.go fc.nt fr dst (erase ρ v) (erasePs ρ ps) st = some r /\ OR' Φ0 ρ0 m0 K r := by
 obtain ⟨tm', fr', h1, h2, h3, h4⟩ := vgo_elim hk h.tm hv
 refine ⟨_, by simp only [OpR.go, h2], .next Φ ρ σ st tm' df ps fr' h1 hs ⟨h.real, h3, ?_, h.ps⟩ rfl⟩
 rw [h4]; exact h.df
theorem vrunOp_sound {fc : VFC} {o : Oper} {tm : Tm} {df : List VDef} {ps : VPs} {K : VOR -> Prop} (hk : vrunOp C intr fc o tm df ps σ K) {fr : Fr} (h : SR Φ ρ σ st tm df ps fr) (hf : FcOk σ.length fc) :
  ∃ n r, runOp C (recN C intr n) (eraseFC ρ fc) o fr (erasePs ρ ps) st = some r /\ OR' Φ ρ σ.length K r := by
 unfold vrunOp at hk
 have ho := vop_sound h.real (vev_rel h.tm) hk
 cases ho with
 | val hv =>
  obtain ⟨v, σ', Φ', ρ', st', k1, k2, k3, k4, k5⟩ := hv
  have h' := h.move k2 k3
  obtain ⟨r, e1, e2⟩ := go_out (Φ0 := Φ) (ρ0 := ρ) (m0 := σ.length) k2 k1 h' k4
  refine ⟨0, r, ?_, e2⟩
  unfold runOp
  rw [k5]
  simp only
  rw [(k2.ps h.ps).1] at e1
  exact e1
 | pan v k1 k2 k3 =>
  refine ⟨0, .pan (erase ρ v) fr (erasePs ρ ps) st, ?_, .pan v Φ ρ σ st tm df ps fr k1 (.refl _ _ _) h k2 rfl⟩
  unfold runOp
  rw [k3]
 | enter f args k1 k2 k3 =>
  obtain ⟨n, r, ps', st', Φ', ρ', σ', e1, e2, e3, e4, e5⟩ := k1.go Φ ρ st h.real k2
  have h' := h.move e2 e3
  cases r with
  | ret v =>
   obtain ⟨r, g1, g2⟩ := go_out (Φ0 := Φ) (ρ0 := ρ) (m0 := σ.length) e2 e5 h' e4
   refine ⟨n, r, ?_, g2⟩
   unfold runOp
   rw [k3]
   simp only [e1, eraseCR]
   rw [(e2.ps h.ps).1] at g1
   exact g1
  | pan v =>
   refine ⟨n, .pan (erase ρ' v) fr (erasePs ρ' ps) st', ?_, .pan v Φ' ρ' σ' st' tm df ps fr e5 e2 h' e4 rfl⟩
   unfold runOp
   rw [k3]
   simp only [e1, eraseCR, (e2.ps h.ps).1]
 | yield l args k1 hl k2 k3 =>
  obtain ⟨n, r, st', Φ', ρ', σ', e1, e2, e3, e4, e5⟩ := k1.go Φ ρ st h.real k2 hl
  have h' := h.move e2 e3
  cases r with
  | ret v =>
   obtain ⟨r, g1, g2⟩ := go_out (Φ0 := Φ) (ρ0 := ρ) (m0 := σ.length) e2 e5 h' e4
   refine ⟨n, r, ?_, g2⟩
   unfold runOp
   rw [k3]
   simp only [e1, eraseCR]
   rw [(e2.ps h.ps).1] at g1
   exact g1
  | pan v =>
   refine ⟨n, .pan (erase ρ' v) fr (erasePs ρ' ps) st', ?_, .pan v Φ' ρ' σ' st' tm df ps fr e5 e2 h' e4 rfl⟩
   unfold runOp
   rw [k3]
   simp only [e1, eraseCR, (e2.ps h.ps).1]
 | recover k1 k3 =>
  dsimp only at k1
  split at k1
  ·exact k1.elim
  ·rename_i hr
   split at k1
   ·rename_i v hd
    have hv : VOk Φ σ.length v := h.ps
    have h' : SR Φ ρ σ st tm df .recd fr := ⟨h.real, h.tm, h.df, trivial⟩
    obtain ⟨r, g1, g2⟩ := go_out (Φ0 := Φ) (ρ0 := ρ) (m0 := σ.length) (.refl _ _ _) k1 h' hv
    refine ⟨0, r, ?_, g2⟩
    unfold runOp
    rw [k3]
    simp only [eraseFC, hr, Option.map_none, hd, erasePs]
    exact g1
   ·rename_i hne
    obtain ⟨r, g1, g2⟩ := go_out (Φ0 := Φ) (ρ0 := ρ) (m0 := σ.length) (.refl _ _ _) k1 h (.d .nili)
    refine ⟨0, r, ?_, g2⟩
    unfold runOp
    rw [k3]
    simp only [eraseFC, hr, Option.map_none]
    split
    ·rename_i v e1 e2
     exfalso
     have : ∀ q : VPs, erasePs ρ q = .pend v -> ∃ w, q = .pend w := fun q hq => by
      cases q with
      | pend w => exact ⟨w, rfl⟩
      | none => cases hq
      | recd => cases hq
     obtain ⟨w, hw⟩ := this _ e2
     exact hne w e1 hw
    ·exact g1
 | defer d k1 k2 k3 =>
  dsimp only at k1
  split at k1
  ·exact k1.elim
  ·rename_i hr
   obtain ⟨tm', fr', h1, h2, h3, h4⟩ := vgo_elim (fr := { fr with df := eraseDf ρ d :: fr.df }) k1 h.tm (tup0_ok (Φ := Φ) (m := σ.length))
   have hdf : DfRel Φ ρ σ.length (d :: df) fr'.df := by
    rw [h4]
    refine ⟨by simp only [List.map_cons]; rw [h.df.1], fun x hx => ?_⟩
    rcases List.mem_cons.1 hx with rfl | hx
    ·exact k2
    ·exact h.df.2 x hx
   refine ⟨0, _, ?_, .next Φ ρ σ st tm' (d :: df) ps fr' h1 (.refl _ _ _) ⟨h.real, h3, hdf, h.ps⟩ rfl⟩
   unfold runOp
   rw [k3]
   simp only [eraseFC, hr, Option.map_none, OpR.go]
   have : setDst fc.nt { fr with df := eraseDf ρ d :: fr.df } o.dst undefV = some fr' := h2
   rw [this]
theorem vwant_elim {ops : List Oper} {tm : Tm} {o : Oper} {ky kn : Prop} (hk : vwant ops tm o ky kn) {fr : Fr} (ht : TmRel Φ ρ m tm fr.tm) : (wantedA ops fr o = some true /\ ky) ∨ (wantedA ops fr o = some false /\ kn) := by
 unfold vwant at hk
 split at hk
 ·rename_i hg; exact .inl ⟨by simp only [wantedA, hg], hk⟩
 ·rename_i j want hg
  split at hk
  ·exact hk.elim
  ·rename_i oj hj
   split at hk
   ·exact hk.elim
   ·rename_i d hd
    split at hk
    ·rename_i b hb
     have e := (ht _ _ hb).1
     cases want with
     | true =>
      cases b with
      | true => exact .inl ⟨by simp only [wantedA, hg, hj, hd, e, erase, eraseD], hk⟩
      | false => exact .inr ⟨by simp only [wantedA, hg, hj, hd, e, erase, eraseD], hk⟩
     | false =>
      cases b with
      | true => exact .inr ⟨by simp only [wantedA, hg, hj, hd, e, erase, eraseD], hk⟩
      | false => exact .inl ⟨by simp only [wantedA, hg, hj, hd, e, erase, eraseD], hk⟩
    ·rename_i l hb
     have e := (ht _ _ hb).1
     exact .inr ⟨by simp only [wantedA, hg, hj, hd, e, erase], hk⟩
    ·exact hk.elim
theorem vstepOp_sound {fc : VFC} {ops : List Oper} {o : Oper} {tm : Tm} {df : List VDef} {ps : VPs} {K : VOR -> Prop} (hk : vstepOp C intr fc ops o tm df ps σ K) {fr : Fr} (h : SR Φ ρ σ st tm df ps fr) (hf : FcOk σ.length fc) :
  ∃ n r, stepOp C (recN C intr n) (eraseFC ρ fc) ops o fr (erasePs ρ ps) st = some r /\ OR' Φ ρ σ.length K r := by
 unfold vstepOp at hk
 rcases vwant_elim hk h.tm with ⟨e, hk⟩ | ⟨e, hk⟩
 ·obtain ⟨n, r, h1, h2⟩ := vrunOp_sound hk h hf
  exact ⟨n, r, by simp only [stepOp, e]; exact h1, h2⟩
 ·obtain ⟨r, g1, g2⟩ := go_out (Φ0 := Φ) (ρ0 := ρ) (m0 := σ.length) (.refl _ _ _) hk h tup0_ok
  exact ⟨0, r, by simp only [stepOp, e]; exact g1, g2⟩
def CR' (Φ : Fz) (ρ : Nat -> Nat) (m : Nat) (Q : VEx -> Tm -> List VDef -> VPs -> VS -> Prop) (r : Ex × Fr × PanS × St) : Prop :=
 ∃ Φ' ρ' σ' st' x tm df ps fr, Q x tm df ps σ' /\ Stp Φ ρ m Φ' ρ' σ'.length /\ SR Φ' ρ' σ' st' tm df ps fr /\ ExOk Φ' σ'.length x /\ r = (eraseEx ρ' x, fr, erasePs ρ' ps, st')
theorem CR'.after {Φ0 : Fz} {ρ0 : Nat -> Nat} {m0 M : Nat} {Q : VEx -> Tm -> List VDef -> VPs -> VS -> Prop} {r : Ex × Fr × PanS × St} (hs : Stp Φ0 ρ0 m0 Φ ρ M) (h : CR' Φ ρ m0 Q r) : CR' Φ0 ρ0 m0 Q r := by
 obtain ⟨Φ', ρ', σ', st', x, tm, df, ps, fr, h1, h2, h3, h4, h5⟩ := h
 exact ⟨Φ', ρ', σ', st', x, tm, df, ps, fr, h1, hs.then h2 (Nat.le_refl _), h3, h4, h5⟩
theorem vseqOps_sound {fc : VFC} {ops : List Oper} : ∀ (l : List Oper) {Φ : Fz} {ρ : Nat -> Nat} {σ : VS} {st : St} {tm : Tm} {df : List VDef} {ps : VPs} {Q : VEx -> Tm -> List VDef -> VPs -> VS -> Prop},
  vseqOps C intr fc ops l tm df ps σ Q -> ∀ {fr : Fr}, SR Φ ρ σ st tm df ps fr -> FcOk σ.length fc ->
  ∃ n r, seqOps C (recN C intr n) (eraseFC ρ fc) ops l fr (erasePs ρ ps) st = some r /\ CR' Φ ρ fc.fl Q r := by
 intro l
 induction l with
 | nil =>
  intro Φ ρ σ st tm df ps Q hk fr h hf
  exact ⟨0, _, rfl, Φ, ρ, σ, st, .norm, tm, df, ps, fr, hk, (Stp.refl _ _ _).weaken hf.2, h, trivial, rfl⟩
 | cons o l ih =>
  intro Φ ρ σ st tm df ps Q hk fr h hf
  rw [vseqOps_cons] at hk
  unfold vseqStep at hk
  obtain ⟨n, r, h1, h2⟩ := vstepOp_sound hk h hf
  cases h2 with
  | next Φ' ρ' σ' st' tm' df' ps' fr' k1 k2 k3 k4 =>
   subst k4
   obtain ⟨n', r', g1, g2⟩ := ih k1 k3 (k2.fc hf).2
   refine ⟨max n n', r', ?_, g2.after (k2.weaken hf.2)⟩
   unfold seqOps
   rw [stepOp_mono (recN_le (Nat.le_max_left n n')) h1]
   simp only
   rw [(k2.fc hf).1] at g1
   exact seqOps_mono (recN_le (Nat.le_max_right n n')) _ g1
  | pan v Φ' ρ' σ' st' tm' df' ps' fr' k1 k2 k3 k4 k5 =>
   subst k5
   refine ⟨n, (.panic (erase ρ' v), fr', erasePs ρ' ps', st'), ?_, Φ', ρ', σ', st', .panic v, tm', df', ps', fr', k1, k2.weaken hf.2, k3, k4, rfl⟩
   unfold seqOps
   rw [h1]
end
theorem kindEq_refl (k : IntKind) : kindEq k k = true := by cases k <;> rfl
mutual
theorem veq_erase (ρ : Nat -> Nat) : ∀ v : V, veq (erase ρ v) (erase ρ v) = true
 | .d x => by
  cases x <;> simp only [erase, eraseD, veq, addrEq, Nat.beq_refl, Bool.and_self]
  ·simp
  ·rw [kindEq_refl, intEq_dec]; simp
  ·rw [strEq_dec]; simp
 | .bp i f => by simp only [erase, veq, addrEq, Nat.beq_refl, Bool.and_self]
 | .ptr i es k f => by simp only [erase, veq, addrEq, Nat.beq_refl, Bool.and_self]
 | .fp b off cs => by simp only [erase, veq, addrEq, Nat.beq_refl, Bool.and_self]
 | .ms i es k len cap => by simp only [erase, veq, addrEq, Nat.beq_refl, Bool.and_self]
 | .map i => by simp only [erase, veq, Nat.beq_refl]
 | .fn f a c => by simp only [erase, veq, fnEq, Nat.beq_refl, veqL_erase ρ a, veqL_erase ρ c, Bool.and_self]
 | .yld l => by simp only [erase, veq, fnEq, Nat.beq_refl]; rfl
 | .iface t v => by simp only [erase, veq, Nat.beq_refl, veq_erase ρ v, Bool.and_self]
 | .agg l => by simp only [erase, veq, veqL_erase ρ l]
 | .tup l => by simp only [erase, veq, veqL_erase ρ l]
theorem veqL_erase (ρ : Nat -> Nat) : ∀ l : List V, veqL (eraseL ρ l) (eraseL ρ l) = true
 | [] => by simp only [eraseL, veqL]
 | v :: l => by simp only [eraseL, veqL, veq_erase ρ v, veqL_erase ρ l, Bool.and_self]
end
section
variable {C : Ctx} {intr : FuncId -> List Value -> Option Value} {Φ Φ' : Fz} {ρ ρ' : Nat -> Nat} {σ : VS} {st : St} {m m' : Nat}
theorem ElsOk.mono' {es : Nat} {els : List (List V)} (h : ElsOk Φ m es els) (hs : Stp Φ ρ m Φ' ρ' m') : ElsOk Φ' m' es els := h.mono hs.le hs.len
theorem MakeOk.mono {op : Op} {ob : VObj} (h : MakeOk Φ m op ob) (hs : Stp Φ ρ m Φ' ρ' m') : MakeOk Φ' m' op ob := by
 unfold MakeOk at h ⊢
 split at h
 ·exact ⟨hs.oks h.1, h.2⟩
 ·exact ⟨hs.oks h.1, h.2⟩
 ·exact h
 ·exact ⟨h.1.mono' hs, h.2⟩
 ·exact h.elim
theorem makerOf_stp {op : Op} {ob : VObj} (h : MakeOk Φ m op ob) (hs : Stp Φ ρ m Φ' ρ' m') (n : Nat) : makerOf op ob ρ' n = makerOf op ob ρ n := by
 unfold MakeOk at h
 split at h
 ·simp only [makerOf, hs.eraseL h.1]
 ·simp only [makerOf, hs.eraseL h.1]
 ·rfl
 ·simp only [makerOf, hs.eraseL (flatOk h.1.ok)]
 ·exact h.elim
inductive ChkRel (Φ : Fz) (ρ : Nat -> Nat) (m : Nat) (ops : List Oper) (st : St) : VChk -> Chk -> Prop
 | val {i : Nat} {v : V} {o : Oper} (ho : nth ops i = some o) (hm : isMaker o.op = false) (hv : VOk Φ m v) : ChkRel Φ ρ m ops st (.val i v) (.val i (erase ρ v))
 | obj {i : Nat} {v : V} {ob : VObj} {j : Option Nat} {o : Oper} {bl : Nat} {a : AObj} (ho : nth ops i = some o) (hm : isMaker o.op = true) (hv : VOk Φ m v) (hk : MakeOk Φ m o.op ob)
   (hmo : makerOf o.op ob ρ bl = some (erase ρ v, a)) (hj : match j with | some j => j < m /\ ρ j = bl /\ isSliceOp o.op = false | none => Φ bl = some a) : ChkRel Φ ρ m ops st (.obj i v ob j) (.obj i (erase ρ v) bl a)
 | skip {i : Nat} : ChkRel Φ ρ m ops st (.skip i) (.skip i)
 | fresh {i : Nat} {v : V} {ob : VObj} {j : Nat} {o : Oper} {bl : Nat} {a : AObj} (ho : nth ops i = some o) (hm : isMaker o.op = true) (hv : VOk Φ m v) (hk : MakeOk Φ m o.op ob)
   (hmo : makerOf o.op ob ρ bl = some (erase ρ v, a)) (hg : st.get bl = some a) (hl : bl < st.n) : ChkRel Φ ρ m ops st (.fresh i v ob j) (.obj i (erase ρ v) bl a)
 | never {i : Nat} {c : Chk} (h : c.idx = i) : ChkRel Φ ρ m ops st (.never i) c
theorem ChkRel.mono {ops : List Oper} {st st' : St} {c : VChk} {c' : Chk} (h : ChkRel Φ ρ m ops st c c') (hs : Stp Φ ρ m Φ' ρ' m') (hg : ∀ b, b < st.n -> st'.get b = st.get b) (hn : st.n <= st'.n) : ChkRel Φ' ρ' m' ops st' c c' := by
 cases h with
 | val ho hm hv => rw [<- hs.erase hv]; exact .val ho hm (hs.ok hv)
 | obj ho hm hv hk hmo hj =>
  rename_i i v ob j o bl a
  rw [<- hs.erase hv]
  refine .obj ho hm (hs.ok hv) (hk.mono hs) (by rw [makerOf_stp hk hs, hmo, hs.erase hv]) ?_
  cases j with
  | some j => exact ⟨Nat.lt_of_lt_of_le hj.1 hs.len, by rw [hs.rho _ hj.1]; exact hj.2.1, hj.2.2⟩
  | none => exact hs.le.blk _ _ hj
 | skip => exact .skip
 | fresh ho hm hv hk hmo h1 h2 =>
  rw [<- hs.erase hv]
  exact .fresh ho hm (hs.ok hv) (hk.mono hs) (by rw [makerOf_stp hk hs, hmo, hs.erase hv]) (by rw [hg _ h2]; exact h1) (Nat.lt_of_lt_of_le h2 hn)
 | never h => exact .never h
theorem ChkRel.harden {ops : List Oper} {st st' : St} {c : VChk} {c' : Chk} (h : ChkRel Φ ρ m ops st c c') (hs : Stp Φ ρ m Φ' ρ' m') : ChkRel Φ' ρ' m' ops st' (vharden c) c' := by
 cases h with
 | val ho hm hv => rw [<- hs.erase hv]; exact .val ho hm (hs.ok hv)
 | obj ho hm hv hk hmo hj =>
  rename_i i v ob j o bl a
  rw [<- hs.erase hv]
  refine .obj ho hm (hs.ok hv) (hk.mono hs) (by rw [makerOf_stp hk hs, hmo, hs.erase hv]) ?_
  cases j with
  | some j => exact ⟨Nat.lt_of_lt_of_le hj.1 hs.len, by rw [hs.rho _ hj.1]; exact hj.2.1, hj.2.2⟩
  | none => exact hs.le.blk _ _ hj
 | skip => exact .skip
 | fresh ho hm hv hk hmo h1 h2 => exact .never rfl
 | never h => exact .never h
theorem vdst_tmpIs {tm : Tm} {fr : Fr} (ht : TmRel Φ ρ m tm fr.tm) {dst : Option Tmp} {v : V} (h : vdst tm dst v) : tmpIs fr dst (erase ρ v) = true := by
 unfold vdst at h
 split at h
 ·rfl
 ·simp only [tmpIs, (ht _ _ h).1, veq_erase]
theorem objEq_maker {op : Op} {ob : VObj} {bl : Nat} {v : Value} {a : AObj} (h : makerOf op ob ρ bl = some (v, a)) : objEq a a = true := by
 unfold makerOf at h
 split at h <;> first | cases h | skip
 ·simp only [objEq, veqL_erase, Nat.beq_refl, Bool.and_self]
 ·simp only [objEq, veqL_erase, Nat.beq_refl, Bool.and_self]
 ·rfl
 ·simp only [objEq, veqL_erase, Nat.beq_refl, Bool.and_self]
theorem maker_here (h : Real Φ ρ σ st) {op : Op} {ob : VObj} {j : Nat} {v : Value} {a : AObj} (hm : makerOf op ob ρ (ρ j) = some (v, a)) (hk : MakeOk Φ m op ob) (hs : isSliceOp op = false) (hn : nth σ j = some ob) : st.get (ρ j) = some a := by
 rw [nth_eq] at hn
 unfold makerOf at hm
 split at hm
 ·cases hm; exact (h.obj j _ hn rfl).1.1.1
 ·cases hm; exact (h.obj j _ hn rfl).1.1.1
 ·obtain ⟨rfl, rfl⟩ := hk
  cases hm
  exact (h.obj j _ hn rfl).1.1
 ·cases hs
 ·cases hm
theorem vstands_sound (h : Real Φ ρ σ st) {ops : List Oper} {tm : Tm} {fr : Fr} (ht : TmRel Φ ρ σ.length tm fr.tm) {c : VChk} {c' : Chk} (hc : ChkRel Φ ρ σ.length ops st c c') (hk : vstands C ops tm σ c) : stands C ops fr st c' = true := by
 cases hc with
 | val ho hm hv =>
  unfold vstands at hk
  simp only [ho] at hk
  rcases vwant_elim hk ht with ⟨e, hd, hq⟩ | ⟨_, hf⟩
  ·obtain ⟨u, rfl, _, ha⟩ := vopq_sound h (vev_rel ht) hq
   simp only [stands, ho, e, isSome, hm, vdst_tmpIs ht hd, ha, veq_erase, Nat.beq_refl]
   rfl
  ·exact hf.elim
 | obj ho hm hv hmk hmo hj =>
  rename_i i v ob j o bl a
  unfold vstands at hk
  simp only [ho] at hk
  rcases vwant_elim hk ht with ⟨e, hd, hq, hn⟩ | ⟨_, hf⟩
  ·obtain ⟨_, hst⟩ := vmake_sound (vev_rel ht) hq
   obtain ⟨w, a', h1, h2⟩ := hst ⟨.nil, bl, .nil⟩
   rw [show (⟨.nil, bl, .nil⟩ : St).n = bl from rfl, hmo] at h1
   cases h1
   have hget : st.get bl = some a := by
    cases j with
    | some j =>
     obtain ⟨_, hb, hsl⟩ := hj
     subst hb
     exact maker_here h hmo hmk hsl hn
    | none => exact h.fz _ _ hj
   have hget2 : ((⟨.nil, bl, .nil⟩ : St).new a).get bl = some a := by rw [St.get_new]; exact if_pos rfl
   simp only [stands, ho, e, isSome, hm, vdst_tmpIs ht hd, hget, h2, veq_erase, objEq_maker hmo, hget2, Bool.and_self]
  ·exact hf.elim
 | fresh ho hm hv hmk hmo hg hl =>
  rename_i i v ob j o bl a
  unfold vstands at hk
  simp only [ho] at hk
  rcases vwant_elim hk ht with ⟨e, hd, hq, hn⟩ | ⟨_, hf⟩
  ·obtain ⟨_, hst⟩ := vmake_sound (vev_rel ht) hq
   obtain ⟨w, a', h1, h2⟩ := hst ⟨.nil, bl, .nil⟩
   rw [show (⟨.nil, bl, .nil⟩ : St).n = bl from rfl, hmo] at h1
   cases h1
   have hget2 : ((⟨.nil, bl, .nil⟩ : St).new a).get bl = some a := by rw [St.get_new]; exact if_pos rfl
   simp only [stands, ho, e, isSome, hm, vdst_tmpIs ht hd, hg, h2, veq_erase, objEq_maker hmo, hget2, Bool.and_self]
  ·exact hf.elim
 | never h => exact hk.elim
 | skip =>
  rename_i i
  unfold vstands at hk
  cases ho : nth ops i with
  | none => simp only [ho] at hk
  | some o =>
   simp only [ho] at hk
   rcases vwant_elim hk ht with ⟨_, hf⟩ | ⟨e, hd⟩
   ·exact hf.elim
   ·have := vdst_tmpIs (ρ := ρ) ht hd
    simp only [stands, ho, e, isSome]
    exact this
inductive ChksRel (Φ : Fz) (ρ : Nat -> Nat) (m : Nat) (ops : List Oper) (st : St) : List VChk -> List Chk -> Prop
 | nil : ChksRel Φ ρ m ops st [] []
 | cons {c : VChk} {c' : Chk} {l : List VChk} {l' : List Chk} (h : ChkRel Φ ρ m ops st c c') (t : ChksRel Φ ρ m ops st l l') : ChksRel Φ ρ m ops st (c :: l) (c' :: l')
theorem ChksRel.mono {ops : List Oper} {st st' : St} {l : List VChk} {l' : List Chk} (h : ChksRel Φ ρ m ops st l l') (hs : Stp Φ ρ m Φ' ρ' m') (hg : ∀ b, b < st.n -> st'.get b = st.get b) (hn : st.n <= st'.n) : ChksRel Φ' ρ' m' ops st' l l' := by
 induction h with
 | nil => exact .nil
 | cons h _ ih => exact .cons (h.mono hs hg hn) ih
theorem ChksRel.harden {ops : List Oper} {st st' : St} {l : List VChk} {l' : List Chk} (h : ChksRel Φ ρ m ops st l l') (hs : Stp Φ ρ m Φ' ρ' m') : ChksRel Φ' ρ' m' ops st' (vhardenL l) l' := by
 induction h with
 | nil => exact .nil
 | cons h _ ih => rw [vhardenL_cons]; exact .cons (h.harden hs) ih
theorem chk_idx {ops : List Oper} {st : St} {c : VChk} {c' : Chk} (h : ChkRel Φ ρ m ops st c c') : c'.idx = c.idx := by cases h <;> first | rfl | assumption
theorem vrecheck_sound (h : Real Φ ρ σ st) {ops : List Oper} {tm : Tm} {fr : Fr} (ht : TmRel Φ ρ σ.length tm fr.tm) {b : Nat} {l : List VChk} {l' : List Chk} (hc : ChksRel Φ ρ σ.length ops st l l') (hk : vrecheck C ops tm σ b l) : recheck C ops fr st b l' = true := by
 induction hc with
 | nil => rfl
 | cons hc _ ih =>
  unfold vrecheck at hk
  unfold recheck
  rw [chk_idx hc]
  split at hk
  ·rename_i e
   rw [tbit_eq] at e
   rw [e, ih hk]; rfl
  ·rename_i e
   rw [vstands_sound h ht hc hk.1, ih hk.2, Bool.or_true]; rfl
theorem vlook_del (d t : Nat) : ∀ tm : Tm, vlook (vdel d tm) t = if t = d then none else vlook tm t := by
 intro tm
 induction tm with
 | nil => simp [vdel, vlook]
 | cons x tm ih =>
  obtain ⟨k, v⟩ := x
  unfold vdel
  split
  ·rename_i e
   have := Nat.eq_of_beq_eq_true e
   subst this
   rw [ih, vlook_cons]
   by_cases h : t = k
   ·rw [if_pos h, if_pos h]
   ·rw [if_neg h, if_neg h, if_neg h]
  ·rename_i e
   rw [vlook_cons, ih, vlook_cons]
   by_cases h : t = k
   ·subst h
    rw [if_pos rfl, if_pos rfl, if_neg]
    intro h; subst h; rw [Nat.beq_refl] at e; cases e
   ·rw [if_neg h, if_neg h]
theorem TmRel.del {tm : Tm} {t : Tr Value} (h : TmRel Φ ρ m tm t) (d : Nat) : TmRel Φ ρ m (vdel d tm) (t.put d none) := by
 intro i u hu
 rw [vlook_del] at hu
 rw [Tr.get_put]
 split at hu
 ·cases hu
 ·rename_i e; rw [if_neg e]; exact h i u hu
theorem TmRel.erase (ops : List Oper) : ∀ {tm : Tm} {t : Tr Value}, TmRel Φ ρ m tm t -> TmRel Φ ρ m (veraseDsts ops tm) (eraseDsts ops t) := by
 induction ops with
 | nil => intro tm t h; exact h
 | cons o ops ih =>
  intro tm t h
  unfold veraseDsts
  simp only [eraseDsts, List.foldl_cons]
  cases hd : o.dst with
  | none => exact ih h
  | some d =>
   simp only
   cases he : isEff o.op with
   | true => exact ih h
   | false => exact ih (h.del d)
theorem vMakeD_elim (h : Real Φ ρ σ st) {ev : Operand -> Option V} {ev' : Operand -> Option Value} (he : EvRel Φ ρ σ.length ev ev') {ops : List Oper} {i : Nat} {o : Oper} (ho : nth ops i = some o) (hmk : isMaker o.op = true)
  {k : V -> VChk -> VS -> Prop} (hk : vMakeD C ev o.op i σ k) :
  ∃ v c σ' Φ' ρ' a, k v c σ' /\ Stp Φ ρ σ.length Φ' ρ' σ'.length /\ Real Φ' ρ' σ' (st.new a) /\ VOk Φ' σ'.length v /\ aop C ev' o st = some (.val (erase ρ' v) (st.new a)) /\
   ChkRel Φ' ρ' σ'.length ops (st.new a) c (.obj i (erase ρ' v) st.n a) := by
 unfold vMakeD at hk
 split at hk
 ·rename_i ob hob
  obtain ⟨hm, hst⟩ := vmake_sound he hob
  obtain ⟨v, a, h1, h2⟩ := hst st
  have hs := stp_add Φ ρ σ.length st.n
  have hadd : addR ρ σ.length st.n σ.length = st.n := if_pos rfl
  split at hk
  ·rename_i hes
   have hk2 := vnew_elim hk
   clear hk
   obtain ⟨w, h3, h4⟩ := vwe hk2
   clear hk2
   have hlen : (σ ++ [ob]).length = σ.length + 1 := by simp
   cases hop : o.op with
   | buildSlice t len ps =>
    cases ob with
    | row es els =>
     rw [hop] at h1 h3 hm
     cases h1
     cases h3
     refine ⟨_, _, _, Φ, _, _, h4, by rw [hlen]; exact hs, h.newRow hm.1, by rw [hlen]; exact .ms (by omega), by rw [h2]; simp only [erase, hadd, Nat.zero_mul], ?_⟩
     have hm' : MakeOk Φ σ.length o.op (.row es els) := by rw [hop]; exact hm
     have h1' : makerOf o.op (.row es els) ρ st.n = some (.slice (some ⟨st.n, 0, none⟩) len len, .cells (eraseL ρ els.flatten) es st.n 0) := by rw [hop]; rfl
     refine .fresh ho hmk (by rw [hlen]; exact .ms (by omega)) (by rw [hlen]; exact hm'.mono hs) ?_ (by rw [St.get_new, if_pos rfl]) (Nat.lt_succ_self _)
     rw [makerOf_stp hm' hs, h1']
     simp only [erase, hadd, Nat.zero_mul]
    | _ => rw [hop] at h1; cases h1
   | _ => rw [hop] at hes; cases hes
  split at hk
  ·rename_i hsl
   split at hk
   ·rename_i es els
    split at hk
    ·rename_i l hl
     cases hop : o.op with
     | buildSlice t len ps =>
      have h1' := h1
      have hm' := hm
      rw [hop] at h1 hm
      cases h1
      obtain ⟨hm1, hm2⟩ := hm
      have hm3 := hm1
      rw [drows_eq hl] at hm1
      obtain ⟨r1, r2, r3⟩ := h.newPs hm1
      have hll : l.length = len := by rw [<- hm2, drows_eq hl, List.length_map]
      have hcs : eraseL ρ els.flatten = l.flatten.map eraseD := by rw [drows_eq hl, flat_d]
      refine ⟨_, _, σ, _, ρ, .cells (l.flatten.map eraseD) es st.n 0, hk st.n, r2, r1, .d (r3 _), ?_, .obj ho hmk (.d (r3 _)) (hm'.mono r2) ?_ (if_pos rfl)⟩
      ·rw [h2]; simp only [erase, eraseD, hll, hcs]
      ·rw [h1']; simp only [erase, eraseD, hll, hcs]
     | _ => rw [hop] at hsl; cases hsl
    ·exact hk.elim
   ·exact hk.elim
  ·rename_i hsl
   have hk2 := vnew_elim hk
   clear hk
   obtain ⟨w, h3, h4⟩ := vwe hk2
   clear hk2
   have hlen : ∀ o : VObj, (σ ++ [o]).length = σ.length + 1 := fun o => by simp
   have hrho : addR ρ σ.length st.n σ.length = st.n := hadd
   have hmo : makerOf o.op ob (addR ρ σ.length st.n) st.n = some (v, a) := by rw [makerOf_stp hm hs]; exact h1
   have key : Real Φ (addR ρ σ.length st.n) (σ ++ [ob]) (st.new a) /\ VOk Φ (σ.length + 1) w /\ erase (addR ρ σ.length st.n) w = v := by
    unfold makerOf at h1
    split at h1
    ·rename_i hop
     rw [hop] at h3 hm
     cases h1
     cases h3
     exact ⟨h.newBox hm.1 hm.2, .bp (by omega), by simp only [erase, hadd]; rfl⟩
    ·rename_i hop
     rw [hop] at h3 hm
     cases h1
     cases h3
     exact ⟨h.newBox hm.1 hm.2, .bp (by omega), by simp only [erase, hadd]; rfl⟩
    ·rename_i hop
     rw [hop] at h3 hm
     obtain ⟨rfl, rfl⟩ := hm
     cases h1
     cases h3
     exact ⟨h.new trivial ⟨by rw [St.get_new, if_pos rfl]; rfl, fun _ h => by simp at h⟩, .map (by omega), by simp only [erase, hadd]⟩
    ·rename_i hop
     rw [hop] at hsl
     cases hsl
    ·cases h1
   obtain ⟨k1, k2, k3⟩ := key
   have hm2 := hm.mono hs
   refine ⟨w, _, _, Φ, _, a, h4, by rw [hlen]; exact hs, k1, by rw [hlen]; exact k2, by rw [h2, k3], ?_⟩
   rw [hlen]
   exact .obj ho hmk k2 hm2 (by rw [hmo, k3]) ⟨by omega, hrho, by simpa using hsl⟩
 ·exact hk.elim
theorem vdrawOps_sound {fc : VFC} {ops : List Oper} {bs : List Nat} : ∀ (l : List Nat) {b : Nat} {chks : List VChk} {chks' : List Chk} {Φ : Fz} {ρ : Nat -> Nat} {σ : VS} {st : St} {tm : Tm} {df : List VDef} {ps : VPs} {Q : VEx -> Tm -> List VDef -> VPs -> VS -> Prop},
  vdrawOps C intr fc ops bs l b chks tm df ps σ Q -> ∀ {fr : Fr}, SR Φ ρ σ st tm df ps fr -> FcOk σ.length fc -> ChksRel Φ ρ σ.length ops st chks chks' ->
  ∃ n r, drawOps C (recN C intr n) (eraseFC ρ fc) ops bs l b chks' fr (erasePs ρ ps) st = some r /\ CR' Φ ρ fc.fl Q r := by
 intro l
 induction l with
 | nil =>
  intro b chks chks' Φ ρ σ st tm df ps Q hk fr h hf hc
  refine ⟨0, (.norm, fr, erasePs ρ ps, st), ?_, Φ, ρ, σ, st, .norm, tm, df, ps, fr, hk.2, (Stp.refl _ _ _).weaken hf.2, h, trivial, rfl⟩
  unfold drawOps
  rw [vrecheck_sound h.real h.tm hc hk.1]
 | cons i l ih =>
  intro b chks chks' Φ ρ σ st tm df ps Q hk fr h hf hc
  rw [vdrawOps_cons] at hk
  unfold vdrawStep at hk
  split at hk
  ·rename_i o bi ho hbi
   split at hk
   ·rename_i he
    have hrc := vrecheck_sound h.real h.tm hc hk.1
    obtain ⟨n, r, h1, h2⟩ := vstepOp_sound hk.2 h hf
    cases h2 with
    | next Φ' ρ' σ' st' tm' df' ps' fr' k1 k2 k3 k4 =>
     subst k4
     obtain ⟨n', r', g1, g2⟩ := ih k1 k3 (k2.fc hf).2 (hc.harden k2)
     refine ⟨max n n', r', ?_, g2.after (k2.weaken hf.2)⟩
     unfold drawOps
     simp only [ho, hbi, he, hrc]
     rw [stepOp_mono (recN_le (Nat.le_max_left n n')) h1]
     simp only
     rw [(k2.fc hf).1] at g1
     exact drawOps_mono (recN_le (Nat.le_max_right n n')) _ g1
    | pan v Φ' ρ' σ' st' tm' df' ps' fr' k1 k2 k3 k4 k5 =>
     subst k5
     refine ⟨n, (.panic (erase ρ' v), { fr' with tm := eraseDsts ops fr'.tm }, erasePs ρ' ps', st'), ?_, Φ', ρ', σ', st', .panic v, _, df', ps', { fr' with tm := eraseDsts ops fr'.tm }, k1, k2.weaken hf.2, ⟨k3.real, k3.tm.erase ops, k3.df, k3.ps⟩, k4, rfl⟩
     unfold drawOps
     simp only [ho, hbi, he, hrc, h1]
   ·rename_i he
    rcases vwant_elim hk h.tm with ⟨e, hk⟩ | ⟨e, hk⟩
    ·split at hk
     ·rename_i hmk
      obtain ⟨v, c, σ', Φ', ρ', a, k1, k2, k3, k4, k5, k6⟩ := vMakeD_elim h.real (vev_rel h.tm) ho hmk hk
      have h' := h.move k2 k3
      obtain ⟨tm', fr', g1, g2, g3, g4⟩ := vgo_elim k1 h'.tm k4
      have h'' : SR Φ' ρ' σ' (st.new a) tm' df ps fr' := ⟨k3, g3, by rw [g4]; exact h'.df, h'.ps⟩
      obtain ⟨n', r', q1, q2⟩ := ih g1 h'' (k2.fc hf).2 (.cons k6 (hc.mono k2 (fun b hb => by rw [St.get_new, if_neg (by omega)]) (Nat.le_succ _)))
      refine ⟨n', r', ?_, q2.after (k2.weaken hf.2)⟩
      unfold drawOps
      have hgn : (st.new a).get st.n = some a := by rw [St.get_new, if_pos rfl]
      rw [(k2.fc hf).1, (k2.ps h.ps).1] at q1
      simp only [ho, hbi, he, e, k5]
      have g2' : setDst (eraseFC ρ fc).nt fr o.dst (erase ρ' v) = some fr' := g2
      simp only [g2', hmk, hgn]
      exact q1
     ·rename_i hmk
      obtain ⟨v, k1, k2, k3⟩ := vopq_sound h.real (vev_rel h.tm) hk
      obtain ⟨tm', fr', g1, g2, g3, g4⟩ := vgo_elim k1 h.tm k2
      have h'' : SR Φ ρ σ st tm' df ps fr' := ⟨h.real, g3, by rw [g4]; exact h.df, h.ps⟩
      obtain ⟨n', r', q1, q2⟩ := ih g1 h'' hf (.cons (.val ho hmk k2) hc)
      refine ⟨n', r', ?_, q2⟩
      unfold drawOps
      have g2' : setDst (eraseFC ρ fc).nt fr o.dst (erase ρ v) = some fr' := g2
      simp only [ho, hbi, he, e, k3, g2', hmk, Nat.beq_refl]
      exact q1
    ·obtain ⟨tm', fr', g1, g2, g3, g4⟩ := vgo_elim hk h.tm (tup0_ok (Φ := Φ) (m := σ.length))
     have h'' : SR Φ ρ σ st tm' df ps fr' := ⟨h.real, g3, by rw [g4]; exact h.df, h.ps⟩
     obtain ⟨n', r', q1, q2⟩ := ih g1 h'' hf (.cons .skip hc)
     refine ⟨n', r', ?_, q2⟩
     unfold drawOps
     have g2' : setDst (eraseFC ρ fc).nt fr o.dst undefV = some fr' := g2
     simp only [ho, hbi, he, e, g2']
     exact q1
  ·exact hk.elim
end
section
variable {C : Ctx} {intr : FuncId -> List Value -> Option Value} {Φ Φ' : Fz} {ρ ρ' : Nat -> Nat} {σ : VS} {st : St} {m m' : Nat}
theorem idx_any {t : TypeId} {x i v : Value} {st : St} (h : aIndexAddr C t x i st = some (.val v st)) (st' : St) : aIndexAddr C t x i st' = some (.val v st') := by
 unfold aIndexAddr at h ⊢
 split at h
 ·split at h
  ·split at h
   ·split at h
    ·cases h; rfl
    ·cases h
   ·cases h
  ·cases h
 ·split at h
  ·split at h
   ·split at h
    ·cases h; rfl
    ·cases h
   ·cases h
  ·cases h
 ·cases h
theorem vtail3_sound {fc : VFC} {a s1 s2 : Oper} {tm : Tm} {df : List VDef} {ps : VPs} {Q : VEx -> Tm -> List VDef -> VPs -> VS -> Prop} (hk : vtail3 C fc.nt a s1 s2 tm df ps σ Q) {fr : Fr} (h : SR Φ ρ σ st tm df ps fr) (hf : FcOk σ.length fc) :
  ∃ r, tail3 C (eraseFC ρ fc) a s1 s2 fr (erasePs ρ ps) st = some r /\ CR' Φ ρ fc.fl Q r := by
 unfold vtail3 at hk
 split at hk
 ·rename_i d t1 x1 y1 t2 x2 y2 ha hs1 hs2 ho1 ho2 hia
  obtain ⟨v, k1, k2, k3⟩ := vopq_sound h.real (vev_rel h.tm) hk
  obtain ⟨tma, fra, ga, g2, g3, g4⟩ := vgo_elim k1 h.tm k2
  obtain ⟨p1, e1, gb⟩ := vwe ga
  obtain ⟨u1, e2, gc⟩ := vwe gb
  obtain ⟨p2, e3, gd⟩ := vwe gc
  obtain ⟨u2, e4, g1⟩ := vwe gd
  clear ga gb gc gd
  obtain ⟨f1, o1⟩ := vev_rel g3 _ _ e1
  obtain ⟨f2, o2⟩ := vev_rel g3 _ _ e2
  have hdel : TmRel Φ ρ σ.length (vdel d tm) (⟨fr.tm.put d none, fr.df⟩ : Fr).tm := h.tm.del d
  obtain ⟨f3, o3⟩ := vev_rel hdel _ _ e3
  obtain ⟨f4, o4⟩ := vev_rel hdel _ _ e4
  split at g1
  ·rename_i i1 es1 kk1 ff1 i2 ff2
   obtain ⟨hA, hB⟩ := g1
   obtain ⟨σ1, st1, q1, q2, q3, q4, q5⟩ := vStore_sound h.real o1 o2 hB
   obtain ⟨σ2, st2, w1, w2, w3, w4, w5⟩ := vStore_sound q3 (by rw [q2]; exact o3) (by rw [q2]; exact o4) q1
   obtain ⟨σ1', st1', q1', q2', q3', q4', q5'⟩ := vStore_sound h.real o3 o4 hA
   obtain ⟨σ2', st2', w1', w2', w3', w4', w5'⟩ := vStore_sound q3' (by rw [q2']; exact o1) (by rw [q2']; exact o2) q1'
   have hrow1 : ∃ es els, σ[i1]? = some (.row es els) := by
    unfold vStore at hB
    split at hB
    ·split at hB
     ·dsimp only at hB
      split at hB
      ·rename_i es' els hr; rw [nth_eq] at hr; exact ⟨_, _, hr⟩
      ·exact hB.elim
     ·exact hB.elim
    ·exact hB.elim
   have hrow2 : ∃ cs, σ[i2]? = some (.box cs) := by
    unfold vStore at hA
    split at hA
    ·split at hA
     ·dsimp only at hA
      split at hA
      ·rename_i cs hr; rw [nth_eq] at hr; exact ⟨_, hr⟩
      ·exact hA.elim
     ·exact hA.elim
    ·exact hA.elim
   obtain ⟨es, els, hr1⟩ := hrow1
   obtain ⟨cs, hr2⟩ := hrow2
   have hne : i1 ≠ i2 := fun e => by subst e; rw [hr1] at hr2; cases hr2
   have hbne : ρ i1 ≠ ρ i2 := fun e => hne (h.real.inj _ _ _ _ hr1 hr2 rfl rfl e)
   obtain ⟨_, fm1, pp1, hg1⟩ := obj_els h.real hr1
   obtain ⟨⟨⟨hg2, hn2⟩, _⟩, _⟩ := h.real.obj i2 _ hr2 rfl
   have hfne : ρ i2 ≠ fm1 := fun e => by
    have hx := h.real.fam_ne hr1 rfl hg1 hg2 (fun e => hbne e.symm) (.inr ⟨i2, _, hr2, rfl, rfl⟩)
    exact hx e
   have hap : apart st (ρ i1) (ρ i2) = true := by
    unfold apart
    rw [hg1, hg2]
    simp only [beq_ne hbne, beq_ne (fun e => hfne e.symm), hn2]
    cases hfm : st.fm.get fm1 with
    | none => rfl
    | some ms =>
     simp only [Bool.not_false, Bool.true_and]
     rw [Bool.not_eq_true']
     refine List.any_eq_false.2 fun x hx => ?_
     intro e
     have e := Nat.eq_of_beq_eq_true e
     subst e
     exact (h.real.fam i1 _ _ _ _ _ _ ms _ hr1 hg1 hfm hx (fun e => hbne e.symm)).2 i2 _ hr2 rfl rfl
   have haddr : aop C (evOp fr) a st1' = some (.val (erase ρ v) st1') := by
    obtain ⟨adst, aop', aty, apos, aaft, agd⟩ := a
    cases aop' with
    | indexAddr t x i =>
     simp only [aop] at k3 ⊢
     split at k3
     ·exact idx_any k3 st1'
     ·cases k3
    | _ => cases hia
   have hem : (isEff a.op || isMaker a.op) = false := by
    cases hop : a.op with
    | indexAddr t x i => rfl
    | _ => rw [hop] at hia; cases hia
   have hnt : setDst (eraseFC ρ fc).nt fr (some d) (erase ρ v) = some fra := g2
   refine ⟨(.norm, fra, erasePs ρ ps, st2), ?_, Φ, ρ, σ2, st2, .norm, tma, df, ps, fra, w1, ⟨Fz.le_refl _, fun _ _ => rfl, by have := hf.2; omega⟩, ⟨w3, ?_, ?_, ?_⟩, trivial, rfl⟩
   ·unfold tail3
    simp only [ha, hs1, hs2, ho1, ho2, hem, k3, Nat.beq_refl, hnt, f1, f2, f3, f4, erase]
    simp only [erase] at q4 w4 q4' w4'
    simp only [hap, q4, q4', haddr, veq_erase, Nat.beq_refl, Bool.and_self, w4, w4']
   ·rw [w2, q2]; exact g3
   ·rw [w2, q2, g4]; exact h.df
   ·rw [w2, q2]; exact h.ps
  ·exact g1.elim
 ·exact hk.elim
theorem vregion_sound {fc : VFC} {ops : Array Oper} {draw : Bool} {tm : Tm} {df : List VDef} {ps : VPs} {Q : VEx -> Tm -> List VDef -> VPs -> VS -> Prop} (hk : vregion C intr fc ops draw tm df ps σ Q) {fr : Fr} (h : SR Φ ρ σ st tm df ps fr) (hf : FcOk σ.length fc) :
  ∃ n r, region C (recN C intr n) (eraseFC ρ fc) ops draw fr (erasePs ρ ps) st = some r /\ CR' Φ ρ fc.fl Q r := by
 unfold vregion at hk
 split at hk
 ·exact vseqOps_sound _ hk h hf
 ·split at hk
  rename_i bs m order hp
  obtain ⟨n, r, h1, h2⟩ := vdrawOps_sound _ hk h hf .nil
  obtain ⟨Φ', ρ', σ', st', x, tm', df', ps', fr', k1, k2, k3, k4, rfl⟩ := h2
  cases x with
  | norm =>
   simp only at k1
   cases hm : Nat.beq m ops.toList.length with
   | true =>
    rw [hm] at k1
    refine ⟨n, _, ?_, Φ', ρ', σ', st', .norm, tm', df', ps', fr', k1, k2, k3, trivial, rfl⟩
    unfold region
    simp only [hp, h1, eraseEx, hm]
   | false =>
    rw [hm] at k1
    simp only at k1
    split at k1
    ·rename_i a s1 s2 b1 hdr hb
     split at k1
     ·rename_i hbit
      rw [tbit_eq] at hbit
      obtain ⟨r, g1, g2⟩ := vtail3_sound (fc := fc) k1 k3 (k2.fcl hf).2
      refine ⟨n, r, ?_, g2.after k2⟩
      rw [(k2.fcl hf).1] at g1
      unfold region
      simp only [hp, h1, eraseEx, hm, hdr, hb, hbit, g1]
     ·exact k1.elim
    ·exact k1.elim
  | exit id =>
   refine ⟨n, _, ?_, Φ', ρ', σ', st', .exit id, tm', df', ps', fr', k1, k2, k3, trivial, rfl⟩
   unfold region
   simp only [hp, h1, eraseEx]
  | ret =>
   refine ⟨n, _, ?_, Φ', ρ', σ', st', .ret, tm', df', ps', fr', k1, k2, k3, trivial, rfl⟩
   unfold region
   simp only [hp, h1, eraseEx]
  | panic v =>
   refine ⟨n, _, ?_, Φ', ρ', σ', st', .panic v, tm', df', ps', fr', k1, k2, k3, k4, rfl⟩
   unfold region
   simp only [hp, h1, eraseEx]
theorem vrange_sound {fc : VFC} {g : FuncId} {first capt : List V} {li : Nat} {tm : Tm} {df : List VDef} {ps : VPs} {Q : VEx -> Tm -> List VDef -> VPs -> VS -> Prop} (hk : vrange C intr g first capt li tm df ps σ Q) {fr : Fr} (h : SR Φ ρ σ st tm df ps fr)
  (hf : FcOk σ.length fc) (hli : li < σ.length) (hfirst : VsOk Φ σ.length first) (hcapt : VsOk Φ σ.length capt) :
  ∃ fi n r, C.ff.get g = some fi /\ (match (recN C intr n).call g (eraseL ρ first ++ [.func (.yield (ρ li)) #[] #[]] ++ eraseL ρ capt) false .none st with
    | some (.ret _, _, st) => match st.get (ρ li) with
     | some (.loop al) => match al.state with
      | .busy => none
      | _ => match jumpOf al.pending with
       | some x => some (x, fr, erasePs ρ ps, st.put (ρ li) (.loop { al with state := .exhausted }))
       | none => none
     | _ => none
    | some (.pan v, _, st) => some (.panic v, fr, erasePs ρ ps, st)
    | none => none) = some r /\ CR' Φ ρ fc.fl Q r := by
 unfold vrange at hk
 split at hk
 ·exact hk.elim
 ·rename_i fi hfi
  have hargs : VsOk Φ σ.length (first ++ [.yld li] ++ capt) := (hfirst.append (fun v hv => by simp at hv; subst hv; exact .yld hli)).append hcapt
  obtain ⟨n, r, ps', st', Φ', ρ', σ', e1, e2, e3, e4, e5⟩ := hk.go Φ ρ st h.real hargs
  have h' := h.move e2 e3
  rw [eraseL_append, eraseL_append] at e1
  simp only [eraseL, erase] at e1
  cases r with
  | ret v =>
   simp only at e5
   split at e5
   ·rename_i L hL
    rw [nth_eq] at hL
    obtain ⟨⟨al, hal, hlo⟩, _⟩ := e3.obj li _ hL rfl
    have hst : L.state ≠ .busy /\ vwith (vjump L.pending) fun x => vset σ' li (.loop { L with state := .exhausted }) fun σ'' => Q x tm df ps σ'' := by
     cases hls : L.state with
     | busy => rw [hls] at e5; exact e5.elim
     | _ => rw [hls] at e5; exact ⟨by simp, e5⟩
    obtain ⟨hnb, e5⟩ := hst
    obtain ⟨x, hx, e5⟩ := vwe e5
    obtain ⟨_, e5⟩ := vset_elim _ _ _ _ e5
    have hput := e3.put (o' := .loop { L with state := .exhausted }) (a := .loop { al with state := .exhausted }) hL rfl rfl rfl (fun _ _ _ _ e => by cases e)
     ⟨{ al with state := .exhausted }, by rw [St.get_put, if_pos rfl], ⟨rfl, hlo.pending, hlo.fn, hlo.tm, hlo.nt, hlo.params, hlo.assign, hlo.body, hlo.defers, hlo.dlt⟩⟩
    have hjx : jumpOf al.pending = some (eraseEx ρ' x) /\ ExOk Φ' σ'.length x := by
     rw [hlo.pending]
     unfold vjump at hx
     split at hx
     ·rename_i e; cases hx; rw [e]; exact ⟨rfl, trivial⟩
     ·rename_i e; cases hx; rw [e]; exact ⟨rfl, trivial⟩
     ·rename_i e; cases hx; rw [e]; exact ⟨rfl, trivial⟩
     ·cases hx
    have hrl : ρ li = ρ' li := (e2.rho li hli).symm
    refine ⟨fi, n, (eraseEx ρ' x, fr, erasePs ρ' ps, st'.put (ρ' li) (.loop { al with state := .exhausted })), hfi, ?_, Φ', ρ', _, _, x, tm, df, ps, fr, e5, by rw [set_len]; exact e2.weaken hf.2, ⟨hput, by rw [set_len]; exact h'.tm, by rw [set_len]; exact h'.df, by rw [set_len]; exact h'.ps⟩, by rw [set_len]; exact hjx.2, rfl⟩
    rw [e1]
    simp only [eraseCR]
    rw [hrl, hal]
    simp only
    rw [hlo.state]
    cases hls : L.state with
    | busy => exact absurd hls hnb
    | _ => simp only [hjx.1, (e2.ps h.ps).1]
   ·exact e5.elim
  | pan v =>
   refine ⟨fi, n, (.panic (erase ρ' v), fr, erasePs ρ' ps, st'), hfi, ?_, Φ', ρ', σ', st', .panic v, tm, df, ps, fr, e5, e2.weaken hf.2, h', e4, rfl⟩
   rw [e1]
   simp only [eraseCR, (e2.ps h.ps).1]
theorem vc_sound {fc : VFC} : ∀ (c : Code) {Φ : Fz} {ρ : Nat -> Nat} {σ : VS} {st : St} {tm : Tm} {df : List VDef} {ps : VPs} {Q : VEx -> Tm -> List VDef -> VPs -> VS -> Prop},
  vc C intr fc c tm df ps σ Q -> ∀ {fr : Fr}, SR Φ ρ σ st tm df ps fr -> FcOk σ.length fc ->
  ∃ n r, code C (recN C intr n) (eraseFC ρ fc) c fr (erasePs ρ ps) st = some r /\ CR' Φ ρ fc.fl Q r := by
 intro c
 induction c with
 | skip => intro Φ ρ σ st tm df ps Q hk fr h hf; exact ⟨0, _, rfl, Φ, ρ, σ, st, .norm, tm, df, ps, fr, hk, (Stp.refl _ _ _).weaken hf.2, h, trivial, rfl⟩
 | region id ops draw => intro Φ ρ σ st tm df ps Q hk fr h hf; exact vregion_sound hk h hf
 | seq a b iha ihb =>
  intro Φ ρ σ st tm df ps Q hk fr h hf
  rw [vc_seq] at hk
  unfold vcSeq at hk
  obtain ⟨n, r, h1, Φ', ρ', σ', st', x, tm', df', ps', fr', k1, k2, k3, k4, rfl⟩ := iha hk h hf
  cases x with
  | norm =>
   cases hct : cutAt fc b with
   | false =>
    rw [hct] at k1
    obtain ⟨n', r', g1, g2⟩ := ihb k1 k3 (k2.fcl hf).2
    refine ⟨max n n', r', ?_, g2.after k2⟩
    unfold code
    rw [code_mono (recN_le (Nat.le_max_left n n')) _ h1]
    simp only [eraseEx]
    rw [(k2.fcl hf).1] at g1
    exact code_mono (recN_le (Nat.le_max_right n n')) _ g1
   | true =>
    rw [hct] at k1
    have k1 : VCode C intr fc b tm' df' ps' σ' Q := k1
    obtain ⟨n', x2, fr2, tm2, df2, ps2, st2, Φ2, ρ2, σ2, e1, e2, e3, e4, e5, e6, e7, e8⟩ := k1.go Φ' ρ' st' fr' k3.real k3.tm k3.df k3.ps (k2.fcl hf).2
    have g2 : CR' Φ' ρ' fc.fl Q (eraseEx ρ2 x2, fr2, erasePs ρ2 ps2, st2) := ⟨Φ2, ρ2, σ2, st2, x2, tm2, df2, ps2, fr2, e8, e2, ⟨e3, e4, e5, e6⟩, e7, rfl⟩
    refine ⟨max n n', _, ?_, g2.after k2⟩
    unfold code
    rw [code_mono (recN_le (Nat.le_max_left n n')) _ h1]
    simp only [eraseEx]
    rw [(k2.fcl hf).1] at e1
    exact code_mono (recN_le (Nat.le_max_right n n')) _ e1
  | exit id => exact ⟨n, _, by unfold code; rw [h1]; rfl, Φ', ρ', σ', st', .exit id, tm', df', ps', fr', k1, k2, k3, k4, rfl⟩
  | ret => exact ⟨n, _, by unfold code; rw [h1]; rfl, Φ', ρ', σ', st', .ret, tm', df', ps', fr', k1, k2, k3, k4, rfl⟩
  | panic v => exact ⟨n, _, by unfold code; rw [h1]; rfl, Φ', ρ', σ', st', .panic v, tm', df', ps', fr', k1, k2, k3, k4, rfl⟩
 | cond c a b iha ihb =>
  intro Φ ρ σ st tm df ps Q hk fr h hf
  rw [vc_cond] at hk
  unfold vcCond at hk
  split at hk
  ·rename_i t ht
   have e := (vev_rel h.tm _ _ ht).1
   cases t with
   | true =>
    obtain ⟨n, r, h1, h2⟩ := iha hk h hf
    exact ⟨n, r, by unfold code; simp only [e, erase, eraseD]; exact h1, h2⟩
   | false =>
    obtain ⟨n, r, h1, h2⟩ := ihb hk h hf
    exact ⟨n, r, by unfold code; simp only [e, erase, eraseD]; exact h1, h2⟩
  ·exact hk.elim
 | block id b ih =>
  intro Φ ρ σ st tm df ps Q hk fr h hf
  obtain ⟨n, r, h1, Φ', ρ', σ', st', x, tm', df', ps', fr', k1, k2, k3, k4, rfl⟩ := ih hk h hf
  cases x with
  | exit id' =>
   simp only at k1
   cases hb : Nat.beq id' id with
   | true =>
    rw [hb] at k1
    exact ⟨n, _, by unfold code; rw [h1]; simp only [eraseEx, hb], Φ', ρ', σ', st', .norm, tm', df', ps', fr', k1, k2, k3, trivial, rfl⟩
   | false =>
    rw [hb] at k1
    exact ⟨n, _, by unfold code; rw [h1]; simp only [eraseEx, hb], Φ', ρ', σ', st', .exit id', tm', df', ps', fr', k1, k2, k3, trivial, rfl⟩
  | norm => exact ⟨n, _, by unfold code; rw [h1]; rfl, Φ', ρ', σ', st', .norm, tm', df', ps', fr', k1, k2, k3, k4, rfl⟩
  | ret => exact ⟨n, _, by unfold code; rw [h1]; rfl, Φ', ρ', σ', st', .ret, tm', df', ps', fr', k1, k2, k3, k4, rfl⟩
  | panic v => exact ⟨n, _, by unfold code; rw [h1]; rfl, Φ', ρ', σ', st', .panic v, tm', df', ps', fr', k1, k2, k3, k4, rfl⟩
 | loop b ih =>
  intro Φ ρ σ st tm df ps Q hk fr h hf
  have hk : VCode C intr fc (.loop b) tm df ps σ Q := hk
  obtain ⟨n, x, fr', tm', df', ps', st', Φ', ρ', σ', e1, e2, e3, e4, e5, e6, e7, e8⟩ := hk.go Φ ρ st fr h.real h.tm h.df h.ps hf
  exact ⟨n, _, e1, Φ', ρ', σ', st', x, tm', df', ps', fr', e8, e2, ⟨e3, e4, e5, e6⟩, e7, rfl⟩
 | rangeFunc f params assign body iha ihb =>
  intro Φ ρ σ st tm df ps Q hk fr h hf
  rw [vc_range] at hk
  unfold vcRange at hk
  split at hk
  ·rename_i g first capt hv
   obtain ⟨e, hok⟩ := vev_rel h.tm _ _ hv
   cases hok with
   | fn hfirst hcapt =>
   have hlen : ∀ (σ : VS) (o : VObj), (σ ++ [o]).length = σ.length + 1 := fun σ o => by simp
   split at hk
   ·rename_i l hl
    split at hk
    ·rename_i L hL
     rw [nth_eq] at hL
     obtain ⟨⟨al, hal, hlo⟩, _⟩ := h.real.obj l _ hL rfl
     have hk := vnew_elim hk
     have hs := stp_add Φ ρ σ.length st.n
     have hadd : addR ρ σ.length st.n σ.length = st.n := if_pos rfl
     have hnew : Real Φ (addR ρ σ.length st.n) (σ ++ [.loop ⟨.ready, none, fc.fn, tm, fc.nt, params.toList, assign, body, L.defers, fc.fz⟩]) (st.new (.loop ⟨.ready, none, fc.fn, fr.tm, fc.nt, params.toList, assign, body, al.defers⟩)) :=
      h.real.new trivial ⟨_, by rw [St.get_new, if_pos rfl], ⟨rfl, rfl, rfl, hs.tm h.tm, rfl, rfl, rfl, rfl, by show al.defers = _; rw [hlo.defers]; exact (hs.rho _ hlo.dlt).symm, Nat.lt_succ_of_lt hlo.dlt⟩⟩
     have hs' : Stp Φ ρ σ.length Φ (addR ρ σ.length st.n) (σ ++ [VObj.loop ⟨.ready, none, fc.fn, tm, fc.nt, params.toList, assign, body, L.defers, fc.fz⟩]).length := by rw [hlen]; exact hs
     have h' := h.move hs' hnew
     obtain ⟨fi, n, r, q1, q2, q3⟩ := vrange_sound (fc := fc) hk h' (hs'.fc hf).2 (by rw [hlen]; omega) (hs'.oks hfirst) (hs'.oks hcapt)
     refine ⟨n, r, ?_, q3.after (hs'.weaken hf.2)⟩
     unfold code
     rw [hs'.eraseL hfirst, hs'.eraseL hcapt, hadd, (hs'.ps h.ps).1] at q2
     simp only [e, erase, eraseFC, enterRange, hl, Option.map_some, hal, q1]
     exact q2
    ·exact hk.elim
   ·rename_i hl
    have hk := vnew_elim (vnew_elim hk)
    have hs1 := stp_add Φ ρ σ.length st.n
    have hadd1 : addR ρ σ.length st.n σ.length = st.n := if_pos rfl
    have hnew1 : Real Φ (addR ρ σ.length st.n) (σ ++ [.defl false]) (st.new (.defl false)) := h.real.new trivial (by show (st.new (.defl false)).get st.n = _; rw [St.get_new, if_pos rfl])
    have hs1' : Stp Φ ρ σ.length Φ (addR ρ σ.length st.n) (σ ++ [VObj.defl false]).length := by rw [hlen]; exact hs1
    have h1 := h.move hs1' hnew1
    have hs2 := stp_add Φ (addR ρ σ.length st.n) (σ ++ [VObj.defl false]).length (st.new (.defl false)).n
    have hadd2 : addR (addR ρ σ.length st.n) (σ ++ [VObj.defl false]).length (st.new (.defl false)).n (σ ++ [VObj.defl false]).length = (st.new (.defl false)).n := if_pos rfl
    have hdl : σ.length < (σ ++ [VObj.defl false]).length := by rw [hlen]; omega
    have hnew2 : Real Φ (addR (addR ρ σ.length st.n) (σ ++ [VObj.defl false]).length (st.new (.defl false)).n) ((σ ++ [VObj.defl false]) ++ [VObj.loop ⟨.ready, none, fc.fn, tm, fc.nt, params.toList, assign, body, σ.length, fc.fz⟩])
      ((st.new (.defl false)).new (.loop ⟨.ready, none, fc.fn, fr.tm, fc.nt, params.toList, assign, body, st.n⟩)) :=
     h1.real.new trivial ⟨_, by rw [St.get_new, if_pos rfl], ⟨rfl, rfl, rfl, hs2.tm h1.tm, rfl, rfl, rfl, rfl, by show st.n = _; rw [hs2.rho _ hdl, hadd1], Nat.lt_succ_of_lt hdl⟩⟩
    have hs2' : Stp Φ (addR ρ σ.length st.n) (σ ++ [VObj.defl false]).length Φ (addR (addR ρ σ.length st.n) (σ ++ [VObj.defl false]).length (st.new (.defl false)).n) ((σ ++ [VObj.defl false]) ++ [VObj.loop ⟨.ready, none, fc.fn, tm, fc.nt, params.toList, assign, body, σ.length, fc.fz⟩]).length := by
     rw [hlen (σ ++ [VObj.defl false])]; exact hs2
    have h2 := h1.move hs2' hnew2
    have hst := hs1'.trans hs2'
    have h3 : SR Φ (addR (addR ρ σ.length st.n) (σ ++ [VObj.defl false]).length (st.new (.defl false)).n) ((σ ++ [VObj.defl false]) ++ [VObj.loop ⟨.ready, none, fc.fn, tm, fc.nt, params.toList, assign, body, σ.length, fc.fz⟩])
      ((st.new (.defl false)).new (.loop ⟨.ready, none, fc.fn, fr.tm, fc.nt, params.toList, assign, body, st.n⟩)) tm (⟨.coll σ.length, []⟩ :: df) ps { fr with df := { target := .collected st.n, args := #[] } :: fr.df } := by
     refine ⟨h2.real, h2.tm, ⟨?_, fun d hd => ?_⟩, h2.ps⟩
     ·have hx := h2.df.1
      simp only [List.map_cons]
      rw [<- hx]
      congr 1
      simp only [eraseDf, hs2.rho _ hdl, hadd1, eraseL]
     ·rcases List.mem_cons.1 hd with rfl | hd
      ·exact ⟨by show σ.length < _; rw [hlen (σ ++ [VObj.defl false]), hlen]; omega, fun _ h => by simp at h⟩
      ·exact h2.df.2 d hd
    obtain ⟨fi, n, r, q1, q2, q3⟩ := vrange_sound (fc := fc) hk h3 (hst.fc hf).2 (by rw [hlen (σ ++ [VObj.defl false])]; omega) (hst.oks hfirst) (hst.oks hcapt)
    refine ⟨n, r, ?_, q3.after (hst.weaken hf.2)⟩
    unfold code
    rw [hst.eraseL hfirst, hst.eraseL hcapt, hadd2, (hst.ps h.ps).1] at q2
    simp only [e, erase, eraseFC, enterRange, hl, Option.map_none, q1]
    exact q2
  ·exact hk.elim
 | exit id => intro Φ ρ σ st tm df ps Q hk fr h hf; exact ⟨0, _, rfl, Φ, ρ, σ, st, .exit id, tm, df, ps, fr, hk, (Stp.refl _ _ _).weaken hf.2, h, trivial, rfl⟩
 | ret => intro Φ ρ σ st tm df ps Q hk fr h hf; exact ⟨0, _, rfl, Φ, ρ, σ, st, .ret, tm, df, ps, fr, hk, (Stp.refl _ _ _).weaken hf.2, h, trivial, rfl⟩
 | scope b ih => intro Φ ρ σ st tm df ps Q hk fr h hf; exact hk.elim
 | label l => intro Φ ρ σ st tm df ps Q hk fr h hf; exact hk.elim
 | goto l => intro Φ ρ σ st tm df ps Q hk fr h hf; exact hk.elim
 | refuse w => intro Φ ρ σ st tm df ps Q hk fr h hf; exact hk.elim
end
end Go.VM
