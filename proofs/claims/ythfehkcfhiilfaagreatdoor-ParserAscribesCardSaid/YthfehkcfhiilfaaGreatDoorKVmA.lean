/- The lifted machine: values, operations, and that they are the evaluator's. -/
import Derived.Test.YthfehkcfhiilfaaGreatDoorKAmA
namespace Go.VM set_option linter.unusedSimpArgs false set_option linter.unusedVariables false
open Go.AM
inductive D where
 | bool (b : Bool)
 | int (k : IntKind) (n : Int)
 | str (s : List UInt8)
 | nilp
 | nils
 | nilm
 | nilf
 | nili
 | ps (b o es cap : Nat) (els : List (List D))
inductive V where
 | d (x : D)
 | bp (i f : Nat)
 | ptr (i es k f : Nat)
 | fp (b off : Nat) (cs : List D)
 | ms (i es k len cap : Nat)
 | map (i : Nat)
 | fn (f : Nat) (first capt : List V)
 | yld (l : Nat)
 | iface (t : Nat) (v : V)
 | agg (l : List V)
 | tup (l : List V)
def eraseD : D -> Value
 | .bool b => .bool b
 | .int k n => .int k n
 | .str s => .string ⟨⟨s⟩⟩
 | .nilp => .pointer none
 | .nils => .slice none 0 0
 | .nilm => .map none
 | .nilf => .nilFunc
 | .nili => .nilIface
 | .ps b o _ cap els => .slice (some ⟨b, o, none⟩) els.length cap
mutual
def erase (ρ : Nat -> Nat) : V -> Value
 | .d x => eraseD x
 | .bp i f => .pointer (some ⟨ρ i, f, none⟩)
 | .ptr i es k f => .pointer (some ⟨ρ i, k * es + f, none⟩)
 | .fp b off _ => .pointer (some ⟨b, off, none⟩)
 | .ms i es k len cap => .slice (some ⟨ρ i, k * es, none⟩) len cap
 | .map i => .map (some (ρ i))
 | .fn f first capt => .func (.func f) ⟨eraseL ρ first⟩ ⟨eraseL ρ capt⟩
 | .yld l => .func (.yield (ρ l)) #[] #[]
 | .iface t v => .iface t (erase ρ v)
 | .agg l => .agg ⟨eraseL ρ l⟩
 | .tup l => .tuple ⟨eraseL ρ l⟩
def eraseL (ρ : Nat -> Nat) : List V -> List Value
 | [] => []
 | v :: l => erase ρ v :: eraseL ρ l
end
inductive VTarget where
 | coll (r : Nat)
 | fn (f : Nat) (capt : List V)
structure VDef where
 target : VTarget
 args : List V
structure VLoop where
 state : LoopState
 pending : Option Code
 fn : FuncId
 tm : List (Nat × V)
 nt : Nat
 params : List Tmp
 assign : Code
 body : Code
 defers : Nat
 fz : Nat -> Bool
structure VEnt where
 key : V
 val : V
 born : Nat
inductive VObj where
 | box (cs : List V)
 | row (es : Nat) (els : List (List V))
 | map (es : List VEnt) (clock : Nat)
 | loop (l : VLoop)
 | defl (taken : Bool)
 | gone
abbrev VS := List VObj
inductive VPs where
 | none
 | pend (v : V)
 | recd
inductive VEx where
 | norm
 | exit (id : Nat)
 | ret
 | panic (v : V)
inductive VCR where
 | ret (v : V)
 | pan (v : V)
structure VFC where
 fn : FuncId
 nt : Nat
 round : Option Nat
 dfd : Bool
 fz : Nat -> Bool
 fl : Nat
inductive VR where
 | val (v : V) (σ : VS)
 | pan (v : V)
 | enter (f : FuncId) (args : List V)
 | yield (l : Nat) (args : List V)
 | recover
 | defer (d : VDef)
def isCell : V -> Bool
 | .agg _ => false
 | .tup _ => false
 | _ => true
def toD : Value -> Option D
 | .bool b => some (.bool b)
 | .int k n => some (.int k n)
 | .string s => some (.str s.data.toList)
 | .pointer none => some .nilp
 | .slice none 0 0 => some .nils
 | .map none => some .nilm
 | .nilFunc => some .nilf
 | .nilIface => some .nili
 | _ => none
def toVs : List Value -> Option (List V)
 | [] => some []
 | v :: l => match toD v, toVs l with
  | some d, some r => some (.d d :: r)
  | _, _ => none
def toV : Value -> Option V
 | .agg ⟨l⟩ => match toVs l with
  | some r => some (.agg r)
  | none => none
 | v => match toD v with
  | some d => some (.d d)
  | none => none
def vlook : List (Nat × V) -> Nat -> Option V
 | [], _ => none
 | (t, v) :: r, n => match Nat.beq t n with
  | true => some v
  | false => vlook r n
def vev (tm : List (Nat × V)) : Operand -> Option V
 | .tmp t => vlook tm t
 | .const v => toV v
 | .global _ => none
 | .func f => some (.fn f [] [])
def vwith {α : Type} (o : Option α) (k : α -> Prop) : Prop :=
 match o with
 | some v => k v
 | none => False
def vcond (p q : Prop) (b : Bool) : Prop :=
 match b with
 | true => p
 | false => q
def vneed (p : Prop) (k : Prop) : Prop := p /\ k
def vcells : V -> List V
 | .agg l => l
 | v => [v]
def vtake : Nat -> List V -> (List V -> Prop) -> Prop
 | 0, _, k => k []
 | _ + 1, [], _ => False
 | n + 1, x :: r, k => vtake n r fun l => k (x :: l)
def vcut : List V -> Nat -> Nat -> (List V -> Prop) -> Prop
 | e, 0, n, k => vtake n e k
 | [], _ + 1, _, _ => False
 | _ :: r, f + 1, n, k => vcut r f n k
def vtakeD : Nat -> List D -> (List V -> Prop) -> Prop
 | 0, _, k => k []
 | _ + 1, [], _ => False
 | n + 1, x :: r, k => vtakeD n r fun l => k (.d x :: l)
def vdropD : Nat -> List D -> (List D -> Prop) -> Prop
 | 0, e, k => k e
 | _ + 1, [], _ => False
 | n + 1, _ :: r, k => vdropD n r k
def vlset : List V -> Nat -> List V -> (List V -> Prop) -> Prop
 | c, 0, [], k => k c
 | [], 0, _ :: _, _ => False
 | _ :: c, 0, v :: vs, k => vlset c 0 vs fun c' => k (v :: c')
 | [], _ + 1, _, _ => False
 | x :: c, f + 1, vs, k => vlset c f vs fun c' => k (x :: c')
def vsnoc : VS -> VObj -> Nat -> (Nat -> VS -> Prop) -> Prop
 | [], o, i, k => k i [o]
 | x :: l, o, i, k => vsnoc l o (i + 1) fun j l' => k j (x :: l')
def vset : VS -> Nat -> VObj -> (VS -> Prop) -> Prop
 | [], _, _, _ => False
 | _ :: l, 0, o, k => k (o :: l)
 | x :: l, i + 1, o, k => vset l i o fun l' => k (x :: l')
def vnew (σ : VS) (o : VObj) (k : Nat -> VS -> Prop) : Prop := vsnoc σ o 0 fun i σ' => forceN i fun i => k i σ'
def vmk (agg : Bool) (c : List V) (k : V -> Prop) : Prop :=
 match agg with
 | true => k (.agg c)
 | false => match c with
  | [v] => k v
  | _ => False
def velem (els : List (List V)) (kk : Nat) (k : List V -> Prop) : Prop := ∃ e, nth els kk = some e /\ k e
def vnat (n : Int) (k : Nat -> Prop) : Prop := ∃ m : Nat, n = Int.ofNat m /\ k m
def vload (n : Nat) (agg : Bool) (a : V) (σ : VS) (k : V -> Prop) : Prop :=
 match a with
 | .bp i f => match nth σ i with
  | some (.box cs) => vcut cs f n fun c => vmk agg c k
  | _ => False
 | .ptr i es kk f => match nth σ i with
  | some (.row es' els) => match Nat.beq es es' with
   | true => velem els kk fun e => vcut e f n fun c => vmk agg c k
   | false => False
  | _ => False
 | .fp _ _ cs => vtakeD n cs fun c => vmk agg c k
 | _ => False
def vLoad (C : Ctx) (t : TypeId) (a : V) (σ : VS) (k : V -> Prop) : Prop :=
 match C.tt.get t with
 | some ti => match ti.agg || Nat.beq ti.size 1 with
  | true => vload ti.size ti.agg a σ k
  | false => False
 | none => False
def vStore (C : Ctx) (t : TypeId) (a x : V) (σ : VS) (k : VS -> Prop) : Prop :=
 match C.tt.get t with
 | some ti => match Nat.beq (vcells x).length ti.size && (vcells x).all isCell with
  | true => match a with
   | .bp i f => match nth σ i with
    | some (.box cs) => vlset cs f (vcells x) fun cs' => vset σ i (.box cs') k
    | _ => False
   | .ptr i es kk f => match nth σ i with
    | some (.row es' els) => match Nat.beq es es' with
     | true => velem els kk fun e => vlset e f (vcells x) fun e' => vset σ i (.row es (els.set kk e')) k
     | false => False
    | _ => False
   | _ => False
  | false => False
 | none => False
def vparts (ev : Operand -> Option V) : List (Nat × Operand) -> Option (List (Nat × V))
 | [] => some []
 | (i, x) :: r => match ev x, vparts ev r with
  | some v, some l => some ((i, v) :: l)
  | _, _ => none
def vlist (ev : Operand -> Option V) : List Operand -> Option (List V)
 | [] => some []
 | x :: r => match ev x, vlist ev r with
  | some v, some l => some (v :: l)
  | _, _ => none
def vfill (place : Nat -> Option (Nat × Nat)) : List V -> List (Nat × V) -> (List V -> Prop) -> Prop
 | cells, [], k => k cells
 | cells, (i, v) :: rest, k =>
  match place i with
  | none => False
  | some (off, size) => match Nat.beq (vcells v).length size with
   | true => vlset cells off (vcells v) fun c => vfill place c rest k
   | false => False
def vBuild (C : Ctx) (t : TypeId) (ps : List (Nat × V)) (k : V -> Prop) : Prop :=
 match C.tt.get t with
 | some ti =>
  match ti.desc with
  | .struct fields =>
   match (fields.toList.all fun f => (C.tt.get f.type).isSome), ti.agg, toVs ti.zero with
   | true, true, some z => vfill (fieldPlace' C fields) z ps fun c => k (.agg c)
   | _, _, _ => False
  | .array _ elem =>
   match C.tt.get elem, ti.agg, toVs ti.zero with
   | some te, true, some z => vfill (fun i => some (i * te.size, te.size)) z ps fun c => k (.agg c)
   | _, _, _ => False
  | _ => False
 | none => False
def vrep (z : List V) : Nat -> List (List V)
 | 0 => []
 | n + 1 => z :: vrep z n
def velems (size : Nat) : List (List V) -> List (Nat × V) -> Option (List (List V))
 | els, [] => some els
 | els, (i, v) :: rest => match Nat.beq (vcells v).length size && Nat.blt i els.length && (vcells v).all isCell with
  | true => velems size (els.set i (vcells v)) rest
  | false => none
def vmake (C : Ctx) (ev : Operand -> Option V) : Op -> Option VObj
 | .alloc t => match C.tt.get t with
  | some ti => match toVs ti.zero, Nat.beq ti.zero.length ti.size with
   | some z, true => some (.box z)
   | _, _ => none
  | none => none
 | .box _ x => match ev x with
  | some v => match (vcells v).all isCell with
   | true => some (.box (vcells v))
   | false => none
  | none => none
 | .makeMap _ none => some (.map [] 0)
 | .buildSlice t len ps => match vparts ev ps.toList, C.tt.get t with
  | some l, some ti => match ti.desc with
   | .slice elem => match C.tt.get elem with
    | some te => match Nat.blt 0 te.size && Nat.ble (len * te.size) 16777216 && Nat.beq te.zero.length te.size, toVs te.zero with
     | true, some z => match velems te.size (vrep z len) l with
      | some els => some (.row te.size els)
      | none => none
     | _, _ => none
    | none => none
   | _ => none
  | _, _ => none
 | _ => none
def vref : Op -> VObj -> Nat -> Option V
 | .alloc _, .box _, i => some (.bp i 0)
 | .box _ _, .box _, i => some (.bp i 0)
 | .makeMap _ _, .map _ _, i => some (.map i)
 | .buildSlice _ len _, .row es _, i => some (.ms i es 0 len len)
 | _, _, _ => none
def dcells : List V -> Option (List D)
 | [] => some []
 | .d x :: r => match dcells r with
  | some l => some (x :: l)
  | none => none
 | _ :: _ => none
def drows : List (List V) -> Option (List (List D))
 | [] => some []
 | e :: r => match dcells e, drows r with
  | some a, some l => some (a :: l)
  | _, _ => none
def isSliceOp : Op -> Bool
 | .buildSlice _ _ _ => true
 | _ => false
def vMake (C : Ctx) (fz : Bool) (ev : Operand -> Option V) (op : Op) (σ : VS) (k : V -> VS -> Prop) : Prop :=
 match vmake C ev op with
 | some ob => match fz && isSliceOp op with
  | true => match ob with
   | .row es els => match drows els with
    | some l => ∀ b : Nat, k (.d (.ps b 0 es l.length l)) σ
    | none => False
   | _ => False
  | false => vnew σ ob fun i σ' => vwith (vref op ob i) fun v => k v σ'
 | none => False
def vNilCheck (x : V) (k : V -> Prop) : Prop :=
 match x with
 | .bp _ _ => k x
 | .ptr _ _ _ _ => k x
 | .fp _ _ _ => k x
 | .iface _ _ => k x
 | .fn _ _ _ => k x
 | .yld _ => k x
 | _ => False
def boolV (b : Bool) : V := .d (.bool b)
def vintBin (op : BinOp) (kd : IntKind) (a b : Int) (k : V -> Prop) : Prop :=
 match op with
 | .add => k (.d (.int kd (kd.wrap (a + b))))
 | .sub => k (.d (.int kd (kd.wrap (a - b))))
 | .mul => k (.d (.int kd (kd.wrap (a * b))))
 | .quo => vneed (b ≠ 0) (k (.d (.int kd (kd.wrap (a.tdiv b)))))
 | .rem => vneed (b ≠ 0) (k (.d (.int kd (a.tmod b))))
 | .and => k (.d (.int kd (kd.wrap (BitVec.ofInt kd.bits a &&& BitVec.ofInt kd.bits b).toNat)))
 | .or => k (.d (.int kd (kd.wrap (BitVec.ofInt kd.bits a ||| BitVec.ofInt kd.bits b).toNat)))
 | .xor => k (.d (.int kd (kd.wrap (BitVec.ofInt kd.bits a ^^^ BitVec.ofInt kd.bits b).toNat)))
 | .andNot => k (.d (.int kd (kd.wrap (BitVec.ofInt kd.bits a &&& ~~~ BitVec.ofInt kd.bits b).toNat)))
 | .eql => k (boolV (decide (a = b)))
 | .neq => k (boolV (!(decide (a = b))))
 | .lss => k (boolV (decide (a < b)))
 | .leq => k (boolV (decide (a <= b)))
 | .gtr => k (boolV (decide (b < a)))
 | .geq => k (boolV (decide (b <= a)))
 | _ => False
def vshift (op : BinOp) (kd : IntKind) (a b : Int) (k : V -> Prop) : Prop :=
 vnat b fun n => match op with
  | .shl => k (.d (.int kd (kd.wrap (a * 2 ^ (min n kd.bits)))))
  | .shr => k (.d (.int kd (a.fdiv (2 ^ (min n kd.bits)))))
  | _ => False
def vstrBin (op : BinOp) (a b : List UInt8) (k : V -> Prop) : Prop :=
 match op with
 | .add => vneed (a.length + b.length <= 1099511627776) (k (.d (.str (a ++ b))))
 | .eql => k (boolV (decide (a = b)))
 | .neq => k (boolV (!(decide (a = b))))
 | .lss => k (boolV (bytesLt a b))
 | .leq => k (boolV (bytesLt a b || decide (a = b)))
 | .gtr => k (boolV (!(bytesLt a b || decide (a = b))))
 | .geq => k (boolV (!(bytesLt a b)))
 | _ => False
def nilKind : V -> Option (Nat × Bool)
 | .d .nilp => some (0, true)
 | .bp _ _ => some (0, false)
 | .ptr _ _ _ _ => some (0, false)
 | .fp _ _ _ => some (0, false)
 | .d .nils => some (1, true)
 | .d (.ps _ _ _ _ _) => some (1, false)
 | .ms _ _ _ _ _ => some (1, false)
 | .d .nilm => some (2, true)
 | .map _ => some (2, false)
 | .d .nilf => some (3, true)
 | .fn _ _ _ => some (3, false)
 | .yld _ => some (3, false)
 | .d .nili => some (4, true)
 | .iface _ _ => some (4, false)
 | _ => none
def descKind : TypeDesc -> Option Nat
 | .pointer _ => some 0
 | .slice _ => some 1
 | .map _ _ => some 2
 | .func _ _ _ => some 3
 | .interface _ => some 4
 | _ => none
def vEq (C : Ctx) (t : TypeId) (x y : Operand) (a b : V) (k : Bool -> Prop) : Prop :=
 match a, b with
 | .d (.bool p), .d (.bool q) => match C.tt.get t with
  | some ti => match ti.desc with
   | .bool => k (p == q)
   | _ => False
  | none => False
 | .agg l, .agg m => match dcells l, dcells m with
  | some l, some m => ∃ r, aEq C t x y (.agg ⟨l.map eraseD⟩) (.agg ⟨m.map eraseD⟩) = some r /\ k r
  | _, _ => False
 | a, b => match C.tt.get t, nilKind a, nilKind b with
  | some ti, some (ka, p), some (kb, q) => match descKind ti.desc with
   | some d => match Nat.beq d ka && Nat.beq d kb && (p || q) && (!(p && q) || !(Nat.beq d 4) || isConstOp x || isConstOp y) with
    | true => k (p && q)
    | false => False
   | none => False
  | _, _, _ => False
def vBin (C : Ctx) (op : BinOp) (t : TypeId) (x y : Operand) (a b : V) (k : V -> Prop) : Prop :=
 match a, b with
 | .d (.int kd m), .d (.int kd' n) => match isShift op with
  | true => vshift op kd m n k
  | false => match kindEq kd kd' with
   | true => vintBin op kd m n k
   | false => False
 | .d (.str m), .d (.str n) => vstrBin op m n k
 | a, b => match op with
  | .eql => vEq C t x y a b fun r => k (boolV r)
  | .neq => vEq C t x y a b fun r => k (boolV (!r))
  | _ => False
def vUn (op : UnOp) (x : V) (k : V -> Prop) : Prop :=
 match op, x with
 | .neg, .d (.int kd n) => k (.d (.int kd (kd.wrap (0 - n))))
 | .xor, .d (.int kd n) => k (.d (.int kd (kd.wrap (BitVec.ofInt kd.bits (if kd.signed then -1 else kd.max) ^^^ BitVec.ofInt kd.bits n).toNat)))
 | .not, .d (.bool b) => k (boolV (!b))
 | _, _ => False
def byteV (c : UInt8) : V := .d (.int .u8 (Int.ofNat c.toNat))
def byteD (c : UInt8) : D := .int .u8 (Int.ofNat c.toNat)
def vConvert (C : Ctx) (src dst : TypeId) (x : V) (σ : VS) (k : V -> Prop) : Prop :=
 match C.tt.get src, C.tt.get dst with
 | some ts, some td =>
  match ts.desc, td.desc with
  | .int _, .int kd => match x with
   | .d (.int _ n) => k (.d (.int kd (kd.wrap n)))
   | _ => False
  | .string, .string => match x with
   | .d (.str s) => k (.d (.str s))
   | _ => False
  | .slice e, .string =>
   match C.tt.get e with
   | some te => match te.desc with
    | .int .u8 => match x with
     | .d .nils => k (.d (.str []))
     | .d (.ps _ _ es _ els) => ∃ l : List UInt8, es = 1 /\ els = (l.map fun c => [byteD c]) /\ k (.d (.str l))
     | .ms i es kk len _ => match nth σ i with
      | some (.row es' els) => ∃ l : List UInt8, es = 1 /\ es' = 1 /\ (els.drop kk).take len = (l.map fun c => [byteV c]) /\ kk + len <= els.length /\ k (.d (.str l))
      | _ => False
     | _ => False
    | _ => False
   | none => False
  | _, _ => False
 | _, _ => False
def vBytes (C : Ctx) (fz : Bool) (src dst : TypeId) (x : V) (σ : VS) (k : V -> VS -> Prop) : Prop :=
 match C.tt.get src, C.tt.get dst with
 | some ts, some td =>
  match ts.desc, td.desc, x with
  | .string, .slice e, .d (.str s) =>
   match C.tt.get e with
   | some te => match te.desc with
    | .int .u8 => match fz with
     | true => ∀ b : Nat, k (.d (.ps b 0 1 s.length (s.map fun c => [byteD c]))) σ
     | false => vnew σ (.row 1 (s.map fun c => [byteV c])) fun i σ' => k (.ms i 1 0 s.length s.length) σ'
    | _ => False
   | none => False
  | _, _, _ => False
 | _, _ => False
def isBytes (C : Ctx) (dst : TypeId) : Bool :=
 match C.tt.get dst with
 | some td => match td.desc with
  | .slice _ => true
  | _ => false
 | none => false
def vMakeInterface (C : Ctx) (t : TypeId) (x : V) (k : V -> Prop) : Prop :=
 match C.tt.get t with
 | some ti => match ti.desc with
  | .interface _ => False
  | _ => k (.iface t x)
 | none => False
def voptNat : Option V -> Nat -> (Nat -> Prop) -> Prop
 | none, d, k => k d
 | some (.d (.int _ n)), _, k => vnat n k
 | _, _, _ => False
def vSlice (C : Ctx) (t : TypeId) (x : V) (lo hi mx : Option V) (σ : VS) (k : V -> Prop) : Prop :=
 match C.tt.get t with
 | none => False
 | some ti =>
  match ti.desc, x with
  | .string, .d (.str s) => match mx with
   | none => voptNat lo 0 fun l => voptNat hi s.length fun h => vneed (l <= h /\ h <= s.length) (k (.d (.str ((s.take h).drop l))))
   | some _ => False
  | .slice elem, x =>
   match C.tt.get elem with
   | none => False
   | some te => match x with
    | .d .nils => voptNat lo 0 fun l => voptNat hi 0 fun h => voptNat mx 0 fun m => vneed (l = 0 /\ h = 0 /\ m = 0 /\ (hi.isSome || mx.isNone) = true) (k (.d .nils))
    | .d (.ps b o es cap els) => match mx with
     | none => voptNat lo 0 fun l => voptNat hi els.length fun h => vneed (l <= h /\ h <= els.length /\ els.length <= cap /\ 0 < cap /\ es = te.size) (k (.d (.ps b (o + l * es) es (cap - l) ((els.take h).drop l))))
     | some _ => False
    | .ms i es kk len cap => match nth σ i with
     | some (.row es' _) => voptNat lo 0 fun l => voptNat hi len fun h => voptNat mx cap fun m => vneed (l <= h /\ h <= m /\ m <= cap /\ 0 <= cap /\ es = te.size /\ es' = es /\ (hi.isSome || mx.isNone) = true) (k (.ms i es (kk + l) (h - l) (m - l)))
     | _ => False
    | _ => False
  | _, _ => False
def vFieldAddr (C : Ctx) (s : TypeId) (x : V) (f : Nat) (k : V -> Prop) : Prop :=
 match C.tt.get s with
 | some ti =>
  match ti.desc with
  | .struct fields => match fieldPlace' C fields f with
   | some (off, size) => match Nat.blt 0 size, x with
    | true, .bp i g => forceN (g + off) fun g => k (.bp i g)
    | true, .ptr i es kk g => forceN (g + off) fun g => k (.ptr i es kk g)
    | true, .fp b o cs => vdropD off cs fun cs => k (.fp b (o + off) cs)
    | _, _ => False
   | none => False
  | _ => False
 | none => False
def vPart (C : Ctx) (t : TypeId) (cs : List V) (off : Nat) (k : V -> Prop) : Prop :=
 match C.tt.get t with
 | some ti => match ti.agg with
  | true => vcut cs off ti.size fun c => k (.agg c)
  | false => vwith (nth cs off) k
 | none => False
def vField (C : Ctx) (t : TypeId) (x : V) (f : Nat) (k : V -> Prop) : Prop :=
 match C.tt.get t, x with
 | some ti, .agg cs =>
  match ti.desc with
  | .struct fields => match nth fields.toList f with
   | some fd => vPart C fd.type cs fd.offset k
   | none => False
  | _ => False
 | _, _ => False
def vIndexAddr (C : Ctx) (t : TypeId) (x i : V) (k : V -> Prop) : Prop :=
 match C.tt.get t, i with
 | some ti, .d (.int _ n) =>
  match ti.desc with
  | .slice elem => match C.tt.get elem with
   | some te => match x with
    | .ms j es kk len _ => match Nat.beq es te.size with
     | true => vnat n fun m => vneed (m < len) (k (.ptr j es (kk + m) 0))
     | false => False
    | .d (.ps b o es _ els) => match Nat.beq es te.size with
     | true => vnat n fun m => ∃ e, nth els m = some e /\ k (.fp b (o + m * es) e)
     | false => False
    | _ => False
   | none => False
  | .array len elem => match C.tt.get elem with
   | some te => match x with
    | .bp j f => vnat n fun m => vneed (m < len) (forceN (f + m * te.size) fun f => k (.bp j f))
    | _ => False
   | none => False
  | _ => False
 | _, _ => False
def vIndex (C : Ctx) (t : TypeId) (x i : V) (k : V -> Prop) : Prop :=
 match C.tt.get t, x, i with
 | some ti, .d (.str s), .d (.int _ n) =>
  match ti.desc with
  | .string => vnat n fun m => ∃ c, nth s m = some c /\ k (byteV c)
  | _ => False
 | some ti, .agg cs, .d (.int _ n) =>
  match ti.desc with
  | .array len elem => match C.tt.get elem with
   | some te => vnat n fun m => vneed (m < len) (vPart C elem cs (m * te.size) k)
   | none => False
  | _ => False
 | _, _, _ => False
def vfind (d : TypeDesc) (key : V) : List VEnt -> Nat -> Option (Option (Nat × V))
 | [], _ => some none
 | e :: r, i =>
  match d, key, e.key with
  | .string, .d (.str a), .d (.str b) => match decide (a = b) with
   | true => some (some (i, e.val))
   | false => vfind d key r (i + 1)
  | .int _, .d (.int k a), .d (.int k' b) => match kindEq k k', decide (a = b) with
   | true, true => some (some (i, e.val))
   | true, false => vfind d key r (i + 1)
   | false, _ => none
  | .bool, .d (.bool a), .d (.bool b) => match a == b with
   | true => some (some (i, e.val))
   | false => vfind d key r (i + 1)
  | _, _, _ => none
def ventries (σ : VS) : V -> Option (List VEnt)
 | .d .nilm => some []
 | .map r => match nth σ r with
  | some (.map es _) => some es
  | _ => none
 | _ => none
def vLookup (C : Ctx) (t : TypeId) (x key : V) (ok : Bool) (σ : VS) (k : V -> Prop) : Prop :=
 match C.tt.get t with
 | none => False
 | some ti =>
  match ti.desc with
  | .map kt et =>
   match C.tt.get kt, C.tt.get et with
   | some tk, some te =>
    match basicKey tk.desc, ventries σ x with
    | true, some es => ∃ r, vfind tk.desc key es 0 = some r /\ (match r with
     | some (_, v) => k (match ok with | true => .tup [v, boolV true] | false => v)
     | none => vwith (toVs te.zero) fun z => vmk te.agg z fun z => k (match ok with | true => .tup [z, boolV false] | false => z))
    | _, _ => False
   | _, _ => False
  | _ => False
def vmapSet : List VEnt -> Nat -> V -> V -> List VEnt
 | [], _, _, _ => []
 | e :: r, i, k, v => match i with
  | 0 => { e with key := k, val := v } :: r
  | j + 1 => e :: vmapSet r j k v
def vMapUpdate (C : Ctx) (t : TypeId) (m key v : V) (σ : VS) (k : VS -> Prop) : Prop :=
 match C.tt.get t, m with
 | some ti, .map r =>
  match ti.desc with
  | .map kt _ =>
   match C.tt.get kt, nth σ r with
   | some tk, some (.map es clock) =>
    match basicKey tk.desc with
    | false => False
    | true => ∃ f, vfind tk.desc key es 0 = some f /\ (match f with
     | some (i, _) => vset σ r (.map (vmapSet es i key v) clock) k
     | none => vset σ r (.map (es ++ [{ key := key, val := v, born := clock }]) (clock + 1)) k)
   | _, _ => False
  | _ => False
 | _, _ => False
def vTypeAssert (C : Ctx) (x : V) (t : TypeId) (ok : Bool) (k : V -> Prop) : Prop :=
 match C.tt.get t with
 | none => False
 | some ti =>
  match ti.desc with
  | .interface _ => False
  | _ =>
   match x with
   | .iface u v => match Nat.beq u t with
    | true => k (match ok with | true => .tup [v, boolV true] | false => v)
    | false => match ok with
     | true => vwith (toVs ti.zero) fun z => vmk ti.agg z fun z => k (.tup [z, boolV false])
     | false => False
   | .d .nili => match ok with
    | true => vwith (toVs ti.zero) fun z => vmk ti.agg z fun z => k (.tup [z, boolV false])
    | false => False
   | _ => False
def vExtract (x : V) (i : Nat) (k : V -> Prop) : Prop :=
 match x with
 | .tup vs => vwith (nth vs i) k
 | _ => False
def vsrc (C : Ctx) (te : TI) (x : V) (σ : VS) (k : List (List V) -> Prop) : Prop :=
 match x with
 | .d .nils => k []
 | .d (.ps _ _ es _ els) => vneed (es = te.size) (k (els.map fun e => e.map V.d))
 | .ms i es kk len _ => match nth σ i with
  | some (.row es' els) => vneed (es = te.size /\ es' = es /\ kk + len <= els.length) (match kk, Nat.beq len els.length with
   | 0, true => k els
   | _, _ => k ((els.drop kk).take len))
  | _ => False
 | .d (.str s) => vneed (te.size = 1) (k (s.map fun c => [byteV c]))
 | _ => False
def vAppend (C : Ctx) (fz : Bool) (argTypes : List TypeId) (args : List V) (σ : VS) (k : V -> VS -> Prop) : Prop :=
 match argTypes, args with
 | [ts, tx], [s, x] =>
  match C.tt.get ts, C.tt.get tx with
  | some ti, some txi =>
   match ti.desc, txi.desc with
   | _, .int _ => False
   | .slice elem, _ =>
    match C.tt.get elem with
    | some te =>
     match Nat.blt 0 te.size && Nat.beq te.zero.length te.size with
     | false => False
     | true => vsrc C te x σ fun xs =>
      match s with
      | .d .nils => vneed (xs.length * te.bytes <= limit /\ xs.length <= limit) (vcond (k (.d .nils) σ)
       (match fz with
       | true => vwith (drows xs) fun l => ∀ b : Nat, k (.d (.ps b 0 te.size l.length l)) σ
       | false => vnew σ (.row te.size xs) fun i σ' => k (.ms i te.size 0 xs.length xs.length) σ') (Nat.beq xs.length 0))
      | .ms i es kk len cap => match nth σ i with
       | some (.row es' els) => vneed (es = te.size /\ es' = es /\ kk + len <= els.length /\ len <= cap /\ (len + xs.length) * te.bytes <= limit /\ len + xs.length <= limit) (vcond (k (.ms i es kk len cap) σ)
        (vcond False
        (vset σ i .gone fun σ =>
        (match fz with
        | true => vwith (drows ((els.drop kk).take len ++ xs)) fun l => ∀ b : Nat, k (.d (.ps b 0 te.size l.length l)) σ
        | false => vnew σ (.row te.size ((els.drop kk).take len ++ xs)) fun j σ' => k (.ms j te.size 0 (len + xs.length) (len + xs.length)) σ')) (Nat.ble (len + xs.length) cap)) (Nat.beq xs.length 0))
       | _ => False
      | .d (.ps b o es cap els) => vneed (els.length <= cap /\ xs = [] /\ els.length * te.bytes <= limit /\ els.length <= limit) (k (.d (.ps b o es cap els)) σ)
      | _ => False
    | none => False
   | _, _ => False
  | _, _ => False
 | _, _ => False
def vLen (C : Ctx) (argTypes : List TypeId) (args : List V) (σ : VS) (k : V -> Prop) : Prop :=
 match argTypes, args with
 | t :: _, x :: _ =>
  match C.tt.get t with
  | none => False
  | some ti =>
   match ti.desc, x with
   | .string, .d (.str s) => k (.d (.int .i64 (Int.ofNat s.length)))
   | .array n _, _ => k (.d (.int .i64 (Int.ofNat n)))
   | .slice _, .d .nils => k (.d (.int .i64 (Int.ofNat 0)))
   | .slice _, .d (.ps _ _ _ _ els) => k (.d (.int .i64 (Int.ofNat els.length)))
   | .slice _, .ms _ _ _ len _ => k (.d (.int .i64 (Int.ofNat len)))
   | .map _ _, x => vwith (ventries σ x) fun es => k (.d (.int .i64 (Int.ofNat es.length)))
   | _, _ => False
 | _, _ => False
def vmm (gt : Bool) (kd : IntKind) : Int -> List V -> (V -> Prop) -> Prop
 | a, [], k => k (.d (.int kd a))
 | a, .d (.int _ b) :: r, k => vmm gt kd (match gt with | true => max a b | false => min a b) r k
 | _, _ :: _, _ => False
def vQuiet (C : Ctx) (b : Builtin) (argTypes : List TypeId) (args : List V) (σ : VS) (k : V -> Prop) : Prop :=
 match b with
 | .len => vLen C argTypes args σ k
 | .max => match args with
  | .d (.int kd a) :: r => vmm true kd a r k
  | _ => False
 | .min => match args with
  | .d (.int kd a) :: r => vmm false kd a r k
  | _ => False
 | _ => False
def vCallFn (C : Ctx) (g : Nat) (all : List V) (σ : VS) (K : VR -> Prop) : Prop :=
 vcond (K (.enter g all)) (match dcells all with
  | some l => ∃ x, C.ext g (l.map eraseD) = some (eraseD x) /\ flat (eraseD x) = true /\ K (.val (.d x) σ)
  | none => False) (C.ff.get g).isSome
def vCallValue (C : Ctx) (f : V) (args : List V) (σ : VS) (K : VR -> Prop) : Prop :=
 match f with
 | .fn g first capt => vCallFn C g (first ++ args ++ capt) σ K
 | .yld l => K (.yield l args)
 | _ => False
def vDefer (f : V) (args : List V) (K : VR -> Prop) : Prop :=
 match f with
 | .fn g first capt => K (.defer { target := .fn g capt, args := first ++ args })
 | _ => False
def vopt (ev : Operand -> Option V) : Option Operand -> Option (Option V)
 | none => some none
 | some l => match ev l with
  | some v => some (some v)
  | none => none
def vopq (C : Ctx) (ev : Operand -> Option V) (op : Op) (σ : VS) (k : V -> Prop) : Prop :=
 match op with
 | .move x => vwith (ev x) k
 | .pick c a b => match ev c, ev a, ev b with
  | some (.d (.bool t)), some u, some v => vcond (k u) (k v) t
  | _, _, _ => False
 | .build t ps => vwith (vparts ev ps.toList) fun l => vBuild C t l k
 | .load t a => vwith (ev a) fun v => vLoad C t v σ k
 | .nilCheck x => vwith (ev x) fun v => vNilCheck v k
 | .binOp op t x y _ => vwith (ev x) fun u => vwith (ev y) fun v => vBin C op t x y u v k
 | .unOp op _ x => vwith (ev x) fun u => vUn op u k
 | .convert s d x => vwith (ev x) fun v => vConvert C s d v σ k
 | .makeInterface t x => vwith (ev x) fun v => vMakeInterface C t v k
 | .makeFunc fn a b => match fn with
  | .func g => vwith (vlist ev a.toList) fun u => vwith (vlist ev b.toList) fun v => k (.fn g u v)
  | _ => False
 | .slice t x lo hi mx => vwith (ev x) fun v => vwith (vopt ev lo) fun l => vwith (vopt ev hi) fun h => vwith (vopt ev mx) fun m => vSlice C t v l h m σ k
 | .fieldAddr t x f => vwith (ev x) fun v => vFieldAddr C t v f k
 | .field t x f => vwith (ev x) fun v => vField C t v f k
 | .indexAddr t x i => vwith (ev x) fun u => vwith (ev i) fun v => vIndexAddr C t u v k
 | .index t x i => vwith (ev x) fun u => vwith (ev i) fun v => vIndex C t u v k
 | .lookup t x i ok => vwith (ev x) fun u => vwith (ev i) fun v => vLookup C t u v ok σ k
 | .typeAssert x _ t ok => vwith (ev x) fun v => vTypeAssert C v t ok k
 | .extract x i => vwith (ev x) fun v => vExtract v i k
 | .call c => vwith (vlist ev c.args.toList) fun args => match c.callee with
   | .builtin b => vQuiet C b c.argTypes.toList args σ k
   | _ => False
 | _ => False
def vop (C : Ctx) (fz : Bool) (ev : Operand -> Option V) (op : Op) (σ : VS) (K : VR -> Prop) : Prop :=
 match op with
 | .assign x => vwith (ev x) fun v => K (.val v σ)
 | .store t a x => vwith (ev a) fun v => vwith (ev x) fun u => vStore C t v u σ fun σ => K (.val (.tup []) σ)
 | .mapUpdate t m k v => vwith (ev m) fun m => vwith (ev k) fun k => vwith (ev v) fun v => vMapUpdate C t m k v σ fun σ => K (.val (.tup []) σ)
 | .insert t m k v => vwith (ev m) fun m => vwith (ev k) fun k => vwith (ev v) fun v => vMapUpdate C t m k v σ fun σ => K (.val (.tup []) σ)
 | .call c => match c.callee with
  | .value f => vwith (vlist ev c.args.toList) fun args => vwith (ev f) fun v => vCallValue C v args σ K
  | .builtin .append => vwith (vlist ev c.args.toList) fun args => vAppend C fz c.argTypes.toList args σ fun v σ => K (.val v σ)
  | .builtin .recover => vwith (vlist ev c.args.toList) fun _ => K .recover
  | _ => vopq C ev (.call c) σ fun v => K (.val v σ)
 | .defer c => vwith (vlist ev c.args.toList) fun args => match c.callee with
  | .value f => vwith (ev f) fun v => vDefer v args K
  | _ => False
 | .panic x => match ev x with
  | some (.iface t v) => K (.pan (.iface t v))
  | _ => False
 | .convert s d x => match isBytes C d with
  | true => vwith (ev x) fun v => vBytes C fz s d v σ fun v σ => K (.val v σ)
  | false => vopq C ev (.convert s d x) σ fun v => K (.val v σ)
 | op => match isMaker op with
  | true => vMake C fz ev op σ fun v σ => K (.val v σ)
  | false => vopq C ev op σ fun v => K (.val v σ)
structure Fz where
 blk : Nat -> Option AObj
 dat : Nat -> Prop
 nof : Nat -> Prop
instance : CoeFun Fz (fun _ => Nat -> Option AObj) := ⟨Fz.blk⟩
structure Fz.le (Φ Φ' : Fz) : Prop where
 blk : ∀ b o, Φ b = some o -> Φ' b = some o
 dat : ∀ b o, Φ b = some o -> (Φ'.dat b ↔ Φ.dat b)
 nof : ∀ f, Φ.nof f -> Φ'.nof f
theorem Fz.le_refl (Φ : Fz) : Φ.le Φ := ⟨fun _ _ h => h, fun _ _ _ => Iff.rfl, fun _ h => h⟩
theorem Fz.le.trans {a b c : Fz} (h : a.le b) (k : b.le c) : a.le c := ⟨fun x l e => k.blk x l (h.blk x l e), fun x l e => (k.dat x l (h.blk x l e)).trans (h.dat x l e), fun f e => k.nof f (h.nof f e)⟩
inductive DOk (Φ : Fz) : D -> Prop
 | bool (b : Bool) : DOk Φ (.bool b)
 | int (k : IntKind) (n : Int) : DOk Φ (.int k n)
 | str (s : List UInt8) : DOk Φ (.str s)
 | nilp : DOk Φ .nilp
 | nils : DOk Φ .nils
 | nilm : DOk Φ .nilm
 | nilf : DOk Φ .nilf
 | nili : DOk Φ .nili
 | ps {b o es cap : Nat} {els : List (List D)} {c : List Value} {f p : Nat} (h : Φ b = some (.cells c es f p)) (hl : ∀ e ∈ els, e.length = es)
   (hb : o + els.length * es <= c.length) (hc : (c.drop o).take (els.length * es) = els.flatten.map eraseD) (hs : ∀ e ∈ els, ∀ d ∈ e, DOk Φ d) (hd : Φ.dat b) : DOk Φ (.ps b o es cap els)
theorem DOk.mono {Φ Φ' : Fz} (h : Φ.le Φ') {d : D} (hd : DOk Φ d) : DOk Φ' d := by
 induction hd with
 | bool b => exact .bool b
 | int k n => exact .int k n
 | str s => exact .str s
 | nilp => exact .nilp
 | nils => exact .nils
 | nilm => exact .nilm
 | nilf => exact .nilf
 | nili => exact .nili
 | ps h1 h2 h3 h4 _ h6 ih => exact .ps (h.blk _ _ h1) h2 h3 h4 ih ((h.dat _ _ h1).2 h6)
inductive VOk (Φ : Fz) (m : Nat) : V -> Prop
 | d {x : D} (h : DOk Φ x) : VOk Φ m (.d x)
 | bp {i f : Nat} (h : i < m) : VOk Φ m (.bp i f)
 | ptr {i es k f : Nat} (h : i < m) : VOk Φ m (.ptr i es k f)
 | fp {b off : Nat} {cs : List D} {c : List Value} {e f p : Nat} (h : Φ b = some (.cells c e f p)) (hb : off + cs.length <= c.length) (hc : (c.drop off).take cs.length = cs.map eraseD)
   (hs : ∀ d ∈ cs, DOk Φ d) (hd : Φ.dat b) : VOk Φ m (.fp b off cs)
 | ms {i es k len cap : Nat} (h : i < m) : VOk Φ m (.ms i es k len cap)
 | map {i : Nat} (h : i < m) : VOk Φ m (.map i)
 | fn {f : Nat} {a c : List V} (h1 : ∀ v ∈ a, VOk Φ m v) (h2 : ∀ v ∈ c, VOk Φ m v) : VOk Φ m (.fn f a c)
 | yld {l : Nat} (h : l < m) : VOk Φ m (.yld l)
 | iface {t : Nat} {v : V} (h : VOk Φ m v) : VOk Φ m (.iface t v)
 | agg {l : List V} (h : ∀ v ∈ l, VOk Φ m v) : VOk Φ m (.agg l)
 | tup {l : List V} (h : ∀ v ∈ l, VOk Φ m v) : VOk Φ m (.tup l)
def VsOk (Φ : Fz) (m : Nat) (l : List V) : Prop := ∀ v ∈ l, VOk Φ m v
theorem VOk.mono {Φ Φ' : Fz} {m m' : Nat} (h : Φ.le Φ') (hm : m <= m') {v : V} (hv : VOk Φ m v) : VOk Φ' m' v := by
 induction hv with
 | d hd => exact .d (hd.mono h)
 | bp h1 => exact .bp (by omega)
 | ptr h1 => exact .ptr (by omega)
 | fp h1 h2 h3 h4 h5 => exact .fp (h.blk _ _ h1) h2 h3 (fun d hd => (h4 d hd).mono h) ((h.dat _ _ h1).2 h5)
 | ms h1 => exact .ms (by omega)
 | map h1 => exact .map (by omega)
 | fn _ _ i1 i2 => exact .fn i1 i2
 | yld h1 => exact .yld (by omega)
 | iface _ ih => exact .iface ih
 | agg _ ih => exact .agg ih
 | tup _ ih => exact .tup ih
theorem VsOk.mono {Φ Φ' : Fz} {m m' : Nat} (h : Φ.le Φ') (hm : m <= m') {l : List V} (hl : VsOk Φ m l) : VsOk Φ' m' l := fun v hv => (hl v hv).mono h hm
theorem eraseL_eq (ρ : Nat -> Nat) : ∀ l : List V, eraseL ρ l = l.map (erase ρ) := by
 intro l
 induction l with
 | nil => simp [eraseL]
 | cons v l ih => simp [eraseL, ih]
theorem eraseL_append (ρ : Nat -> Nat) (a b : List V) : eraseL ρ (a ++ b) = eraseL ρ a ++ eraseL ρ b := by simp [eraseL_eq]
theorem eraseL_length (ρ : Nat -> Nat) (a : List V) : (eraseL ρ a).length = a.length := by simp [eraseL_eq]
theorem erase_congr {Φ : Fz} {m : Nat} {ρ ρ' : Nat -> Nat} (h : ∀ i, i < m -> ρ' i = ρ i) {v : V} (hv : VOk Φ m v) : erase ρ' v = erase ρ v := by
 induction hv with
 | d _ => simp [erase]
 | bp h1 => simp [erase, h _ h1]
 | ptr h1 => simp [erase, h _ h1]
 | fp => simp [erase]
 | ms h1 => simp [erase, h _ h1]
 | map h1 => simp [erase, h _ h1]
 | fn _ _ i1 i2 =>
  simp only [erase, eraseL_eq]
  rw [List.map_congr_left i1, List.map_congr_left i2]
 | yld h1 => simp [erase, h _ h1]
 | iface _ ih => simp [erase, ih]
 | agg _ ih => simp only [erase, eraseL_eq]; rw [List.map_congr_left ih]
 | tup _ ih => simp only [erase, eraseL_eq]; rw [List.map_congr_left ih]
theorem eraseL_congr {Φ : Fz} {m : Nat} {ρ ρ' : Nat -> Nat} (h : ∀ i, i < m -> ρ' i = ρ i) {l : List V} (hl : VsOk Φ m l) : eraseL ρ' l = eraseL ρ l := by
 rw [eraseL_eq, eraseL_eq]
 exact List.map_congr_left fun v hv => erase_congr h (hl v hv)
theorem isCell_erase {ρ : Nat -> Nat} {v : V} (h : isCell v = true) : cellVal (erase ρ v) = true := by
 cases v with
 | d x => cases x <;> simp [erase, eraseD, cellVal]
 | agg _ => cases h
 | tup _ => cases h
 | _ => simp [erase, cellVal]
def TmRel (Φ : Fz) (ρ : Nat -> Nat) (m : Nat) (l : List (Nat × V)) (tm : Tr Value) : Prop :=
 ∀ t v, vlook l t = some v -> tm.get t = some (erase ρ v) /\ VOk Φ m v
def eraseDf (ρ : Nat -> Nat) (d : VDef) : Deferred :=
 { target := (match d.target with | .coll r => .collected (ρ r) | .fn f c => .fn (.func f) ⟨eraseL ρ c⟩), args := ⟨eraseL ρ d.args⟩ }
def DfOk (Φ : Fz) (m : Nat) (d : VDef) : Prop :=
 (match d.target with | .coll r => r < m | .fn _ c => VsOk Φ m c) /\ VsOk Φ m d.args
def DfRel (Φ : Fz) (ρ : Nat -> Nat) (m : Nat) (l : List VDef) (df : List Deferred) : Prop := df = l.map (eraseDf ρ) /\ ∀ d ∈ l, DfOk Φ m d
def eraseE (ρ : Nat -> Nat) (e : VEnt) : MapEntry := { key := erase ρ e.key, val := erase ρ e.val, born := e.born }
structure LOk (Φ : Fz) (ρ : Nat -> Nat) (m : Nat) (L : VLoop) (al : ALoop) : Prop where
 state : al.state = L.state
 pending : al.pending = L.pending
 fn : al.fn = L.fn
 tm : TmRel Φ ρ m L.tm al.tm
 nt : al.nt = L.nt
 params : al.params = L.params
 assign : al.assign = L.assign
 body : al.body = L.body
 defers : al.defers = ρ L.defers
 dlt : L.defers < m
def OOk (Φ : Fz) (ρ : Nat -> Nat) (m : Nat) (st : St) (o : VObj) (b : Nat) : Prop :=
 match o with
 | .box cs => (st.get b = some (.cells (eraseL ρ cs) cs.length b 0) /\ st.fm.get b = none) /\ VsOk Φ m cs /\ (∀ v ∈ cs, isCell v = true)
 | .row es els => (∃ f p, st.get b = some (.cells (eraseL ρ els.flatten) es f p)) /\ (∀ e ∈ els, e.length = es) /\ (∀ e ∈ els, VsOk Φ m e) /\ (∀ e ∈ els, ∀ v ∈ e, isCell v = true)
 | .map es clock => st.get b = some (.map (es.map (eraseE ρ)) clock) /\ ∀ e ∈ es, VOk Φ m e.key /\ VOk Φ m e.val
 | .loop L => ∃ al, st.get b = some (.loop al) /\ LOk Φ ρ m L al
 | .defl t => st.get b = some (.defl t)
 | .gone => True
def live : VObj -> Bool
 | .gone => false
 | _ => true
structure WM (st : St) : Prop where
 lt : ∀ f ms x, st.fm.get f = some ms -> x ∈ ms -> x < st.n
 row : ∀ f ms x o, st.fm.get f = some ms -> x ∈ ms -> st.get x = some o -> o = .dead ∨ ∃ c e p, o = .cells c e f p
theorem WM.mem {st : St} (h : WM st) : ∀ f ms x c e g p, st.fm.get f = some ms -> x ∈ ms -> st.get x = some (.cells c e g p) -> g = f := by
 intro f ms x c e g p hm hx hg
 rcases h.row f ms x _ hm hx hg with e | ⟨_, _, _, e⟩
 ·cases e
 ·cases e; rfl
structure Real (Φ : Fz) (ρ : Nat -> Nat) (σ : VS) (st : St) : Prop where
 wf : WF st
 wm : WM st
 fz : ∀ b o, Φ b = some o -> st.get b = some o
 ndd : ∀ b, Φ b ≠ some .dead
 nof : ∀ f, Φ.nof f -> st.fm.get f = none /\ f < st.n
 fzd : ∀ x y c e f p c' e' p', Φ x = some (.cells c e f p) -> Φ y = some (.cells c' e' f p') -> x = y
 rnf : ∀ i es els c e f p, σ[i]? = some (.row es els) -> st.get (ρ i) = some (.cells c e f p) -> ¬ Φ.nof f
 obj : ∀ i o, σ[i]? = some o -> live o = true -> OOk Φ ρ σ.length st o (ρ i) /\ Φ (ρ i) = none
 inj : ∀ i j oi oj, σ[i]? = some oi -> σ[j]? = some oj -> live oi = true -> live oj = true -> ρ i = ρ j -> i = j
 fam : ∀ i es els c e f p ms x, σ[i]? = some (.row es els) -> st.get (ρ i) = some (.cells c e f p) -> st.fm.get f = some ms -> x ∈ ms -> x ≠ ρ i ->
  Φ x = none /\ ∀ j o, σ[j]? = some o -> live o = true -> ρ j ≠ x
structure Stp (Φ : Fz) (ρ : Nat -> Nat) (m : Nat) (Φ' : Fz) (ρ' : Nat -> Nat) (m' : Nat) : Prop where
 le : Φ.le Φ'
 rho : ∀ i, i < m -> ρ' i = ρ i
 len : m <= m'
theorem Stp.refl (Φ : Fz) (ρ : Nat -> Nat) (m : Nat) : Stp Φ ρ m Φ ρ m := ⟨Fz.le_refl _, fun _ _ => rfl, Nat.le_refl _⟩
theorem Stp.trans {Φ Φ1 Φ2 : Fz} {ρ ρ1 ρ2 : Nat -> Nat} {m m1 m2 : Nat} (h : Stp Φ ρ m Φ1 ρ1 m1) (k : Stp Φ1 ρ1 m1 Φ2 ρ2 m2) : Stp Φ ρ m Φ2 ρ2 m2 :=
 ⟨h.le.trans k.le, fun i hi => (k.rho i (Nat.lt_of_lt_of_le hi h.len)).trans (h.rho i hi), Nat.le_trans h.len k.len⟩
section
variable {Φ Φ' : Fz} {ρ ρ' : Nat -> Nat} {m m' : Nat}
theorem Stp.erase (h : Stp Φ ρ m Φ' ρ' m') {v : V} (hv : VOk Φ m v) : erase ρ' v = erase ρ v := erase_congr h.rho hv
theorem Stp.eraseL (h : Stp Φ ρ m Φ' ρ' m') {v : List V} (hv : VsOk Φ m v) : eraseL ρ' v = eraseL ρ v := eraseL_congr h.rho hv
theorem Stp.ok (h : Stp Φ ρ m Φ' ρ' m') {v : V} (hv : VOk Φ m v) : VOk Φ' m' v := hv.mono h.le h.len
theorem Stp.oks (h : Stp Φ ρ m Φ' ρ' m') {v : List V} (hv : VsOk Φ m v) : VsOk Φ' m' v := hv.mono h.le h.len
theorem Stp.tm (h : Stp Φ ρ m Φ' ρ' m') {l : List (Nat × V)} {tm : Tr Value} (k : TmRel Φ ρ m l tm) : TmRel Φ' ρ' m' l tm := fun t v hv => by
 obtain ⟨h1, h2⟩ := k t v hv
 exact ⟨by rw [h1, h.erase h2], h.ok h2⟩
theorem Stp.df1 (h : Stp Φ ρ m Φ' ρ' m') {d : VDef} (k : DfOk Φ m d) : eraseDf ρ' d = eraseDf ρ d /\ DfOk Φ' m' d := by
 obtain ⟨t, a⟩ := d
 obtain ⟨k1, k2⟩ := k
 cases t with
 | coll r => exact ⟨by simp only [eraseDf]; rw [h.rho r k1, h.eraseL k2], Nat.lt_of_lt_of_le k1 h.len, h.oks k2⟩
 | fn f c => exact ⟨by simp only [eraseDf]; rw [h.eraseL k1, h.eraseL k2], h.oks k1, h.oks k2⟩
theorem Stp.df (h : Stp Φ ρ m Φ' ρ' m') {l : List VDef} {df : List Deferred} (k : DfRel Φ ρ m l df) : DfRel Φ' ρ' m' l df :=
 ⟨by rw [k.1]; exact (List.map_congr_left fun d hd => (h.df1 (k.2 d hd)).1).symm, fun d hd => (h.df1 (k.2 d hd)).2⟩
theorem Stp.lo (h : Stp Φ ρ m Φ' ρ' m') {L : VLoop} {al : ALoop} (k : LOk Φ ρ m L al) : LOk Φ' ρ' m' L al :=
 ⟨k.state, k.pending, k.fn, h.tm k.tm, k.nt, k.params, k.assign, k.body, by rw [k.defers, h.rho _ k.dlt], Nat.lt_of_lt_of_le k.dlt h.len⟩
theorem flatOk {els : List (List V)} (h : ∀ e ∈ els, VsOk Φ m e) : VsOk Φ m els.flatten := fun v hv => by
 obtain ⟨e, he, hv⟩ := List.mem_flatten.1 hv
 exact h e he v hv
theorem Stp.obj' (h : Stp Φ ρ m Φ' ρ' m') {st st' : St} {o : VObj} {b : Nat} (hg : st'.get b = st.get b) (hf : ∀ cs, o = .box cs -> st'.fm.get b = none) (k : OOk Φ ρ m st o b) : OOk Φ' ρ' m' st' o b := by
 cases o with
 | box cs =>
  obtain ⟨⟨k1, k0⟩, k2, k3⟩ := k
  exact ⟨⟨by rw [hg, k1, h.eraseL k2], hf _ rfl⟩, h.oks k2, k3⟩
 | row es els =>
  obtain ⟨⟨f, p, k1⟩, k2, k3, k4⟩ := k
  exact ⟨⟨f, p, by rw [hg, k1, h.eraseL (flatOk k3)]⟩, k2, fun e he => h.oks (k3 e he), k4⟩
 | map es clock =>
  obtain ⟨k1, k2⟩ := k
  refine ⟨?_, fun e he => ⟨h.ok (k2 e he).1, h.ok (k2 e he).2⟩⟩
  rw [hg, k1]
  have : es.map (eraseE ρ') = es.map (eraseE ρ) := List.map_congr_left fun e he => by
   simp only [eraseE]
   rw [h.erase (k2 e he).1, h.erase (k2 e he).2]
  rw [this]
 | loop L =>
  obtain ⟨al, k1, k2⟩ := k
  exact ⟨al, by rw [hg, k1], h.lo k2⟩
 | defl t => exact hg.trans k
 | gone => trivial
theorem Stp.obj (h : Stp Φ ρ m Φ' ρ' m') {st st' : St} {o : VObj} {b : Nat} (hg : st'.get b = st.get b) (hf : ∀ c e f p, st.get b = some (.cells c e f p) -> st.fm.get f = none -> st'.fm.get f = none) (k : OOk Φ ρ m st o b) : OOk Φ' ρ' m' st' o b :=
 h.obj' hg (fun cs e => by subst e; exact hf _ _ _ _ k.1.1 k.1.2) k
end
theorem killIn_out (b lo hi : Nat) : ∀ (ms : List Nat) (hp : Tr AObj) (x : Nat), x ∉ ms -> (killIn b lo hi ms hp).1.get x = hp.get x := by
 intro ms
 induction ms with
 | nil => intro hp x _; rfl
 | cons m ms ih =>
  intro hp x hx
  have hxm : x ≠ m := fun e => hx (by simp [e])
  have hxs : x ∉ ms := fun e => hx (by simp [e])
  unfold killIn
  split
  ·exact ih hp x hxs
  ·split
   ·split
    ·rw [ih _ x hxs, Tr.get_set, if_neg hxm]
    ·exact ih hp x hxs
   ·exact ih hp x hxs
theorem killIn_sub (b lo hi : Nat) : ∀ (ms : List Nat) (hp : Tr AObj) (x : Nat), x ∈ (killIn b lo hi ms hp).2 -> x ∈ ms := by
 intro ms
 induction ms with
 | nil => intro hp x h; simp [killIn] at h
 | cons m ms ih =>
  intro hp x hx
  unfold killIn at hx
  split at hx
  ·rcases List.mem_cons.1 hx with rfl | h
   ·simp
   ·simp [ih _ x h]
  ·split at hx
   ·split at hx
    ·simp [ih _ x hx]
    ·rcases List.mem_cons.1 hx with rfl | h
     ·simp
     ·simp [ih _ x h]
   ·rcases List.mem_cons.1 hx with rfl | h
    ·simp
    ·simp [ih _ x h]
section
variable {st : St} {fam b lo hi : Nat}
theorem kill_out {x : Nat} (hx : ∀ ms, st.fm.get fam = some ms -> x ∉ ms) : (st.kill fam b lo hi).get x = st.get x := by
 unfold St.kill
 split
 ·rfl
 ·rename_i ms h
  exact killIn_out b lo hi ms st.hp x (hx ms h)
theorem kill_fm (f : Nat) : (f ≠ fam -> (st.kill fam b lo hi).fm.get f = st.fm.get f) /\ (st.fm.get fam = none -> (st.kill fam b lo hi).fm.get f = st.fm.get f) /\
  (∀ ms, st.fm.get fam = some ms -> ∃ ms', (st.kill fam b lo hi).fm.get fam = some ms' /\ ∀ x ∈ ms', x ∈ ms) := by
 cases hfm : st.fm.get fam with
 | none => rw [St.kill_none hfm]; exact ⟨fun _ => rfl, fun _ => rfl, fun ms h => by cases h⟩
 | some ms =>
  rw [St.kill_some hfm]
  refine ⟨fun hne => (by show (st.fm.set fam _).get f = _; rw [Tr.get_set, if_neg hne]), fun h => (by cases h), fun ms' h => ?_⟩
  cases h
  refine ⟨_, by show (st.fm.set fam _).get fam = _; rw [Tr.get_set, if_pos rfl], fun x hx => killIn_sub b lo hi ms st.hp x hx⟩
end
theorem WM.put_row {st : St} (h : WM st) {b : Nat} {c c' : List Value} {e f p : Nat} (hg : st.get b = some (.cells c e f p)) : WM (st.put b (.cells c' e f p)) := by
 refine ⟨h.lt, fun g ms x o hm hx hgx => ?_⟩
 rw [St.get_put] at hgx
 split at hgx
 ·rename_i hb
  cases hgx
  have := h.mem g ms x c e f p hm hx (hb ▸ hg)
  subst this
  exact .inr ⟨_, _, _, rfl⟩
 ·exact h.row g ms x o hm hx hgx
theorem WM.put_other {st : St} (h : WM st) {b : Nat} {a a0 : AObj} (h0 : st.get b = some a0) (hd : a0 ≠ .dead) (ha0 : ∀ c e f p, a0 ≠ .cells c e f p) : WM (st.put b a) := by
 refine ⟨h.lt, fun g ms x o hm hx hgx => ?_⟩
 rw [St.get_put] at hgx
 split at hgx
 ·rename_i hb
  rcases h.row g ms x a0 hm hx (hb ▸ h0) with e | ⟨_, _, _, e⟩
  ·exact absurd e hd
  ·exact absurd e (ha0 _ _ _ _)
 ·exact h.row g ms x o hm hx hgx
theorem WM.new {st : St} (h : WM st) {a : AObj} : WM (st.new a) := by
 refine ⟨fun f ms x hf hx => Nat.lt_succ_of_lt (h.lt f ms x hf hx), fun g ms x o hm hx hgx => ?_⟩
 have hm : st.fm.get g = some ms := hm
 rw [St.get_new, if_neg (Nat.ne_of_lt (h.lt g ms x hm hx))] at hgx
 exact h.row g ms x o hm hx hgx
theorem WM.kill {st : St} (h : WM st) {fam b lo hi : Nat} : WM (st.kill fam b lo hi) := by
 have hsub : ∀ g ms x, (st.kill fam b lo hi).fm.get g = some ms -> x ∈ ms -> ∃ ms0, st.fm.get g = some ms0 /\ x ∈ ms0 := by
  intro g ms x hgm hx
  have kf := kill_fm (st := st) (fam := fam) (b := b) (lo := lo) (hi := hi) g
  by_cases hgf : g = fam
  ·subst hgf
   cases hfm : st.fm.get g with
   | none => rw [kf.2.1 hfm, hfm] at hgm; cases hgm
   | some ms0 =>
    obtain ⟨ms', k1, k2⟩ := kf.2.2 ms0 hfm
    rw [k1] at hgm
    cases hgm
    exact ⟨ms0, rfl, k2 x hx⟩
  ·rw [kf.1 hgf] at hgm
   exact ⟨ms, hgm, hx⟩
 refine ⟨fun g ms x hm hx => ?_, fun g ms x o hm hx hgx => ?_⟩
 ·obtain ⟨ms0, k1, k2⟩ := hsub g ms x hm hx
  rw [St.kill_n]; exact h.lt g ms0 x k1 k2
 ·obtain ⟨ms0, k1, k2⟩ := hsub g ms x hm hx
  rcases St.kill_old hgx with e | e
  ·exact .inl e
  ·exact h.row g ms0 x o k1 k2 e
def cellObj : VObj -> Bool
 | .box _ => true
 | .row _ _ => true
 | _ => false
section
variable {Φ : Fz} {ρ : Nat -> Nat} {σ : VS} {st : St}
theorem Real.lt (h : Real Φ ρ σ st) {i : Nat} {o : VObj} (hi : σ[i]? = some o) (hl : live o = true) : ρ i < st.n := by
 have hk := (h.obj i o hi hl).1
 cases o with
 | box cs => obtain ⟨⟨k, _⟩, _⟩ := hk; exact h.wf.lt _ _ k
 | row es els => obtain ⟨⟨_, _, k⟩, _⟩ := hk; exact h.wf.lt _ _ k
 | map es clock => exact h.wf.lt _ _ hk.1
 | loop L => obtain ⟨_, k, _⟩ := hk; exact h.wf.lt _ _ k
 | defl t => exact h.wf.lt _ _ hk
 | gone => cases hl
theorem Real.flt (h : Real Φ ρ σ st) {b : Nat} {o : AObj} (hb : Φ b = some o) : b < st.n := h.wf.lt _ _ (h.fz _ _ hb)
theorem Real.apart (h : Real Φ ρ σ st) {i : Nat} {oi : VObj} (hi : σ[i]? = some oi) (hc : cellObj oi = true) {c : List Value} {e f p : Nat} (hg : st.get (ρ i) = some (.cells c e f p))
  {ms : List Nat} (hm : st.fm.get f = some ms) {x : Nat} (hx : x ∈ ms) (hne : x ≠ ρ i) : Φ x = none /\ ∀ j o, σ[j]? = some o -> live o = true -> ρ j ≠ x := by
 cases oi with
 | box cs =>
  obtain ⟨⟨⟨k, k0⟩, _⟩, _⟩ := h.obj i _ hi rfl
  rw [hg] at k; cases k
  rw [hm] at k0; cases k0
 | row es els => exact h.fam i es els c e f p ms x hi hg hm hx hne
 | _ => cases hc
theorem Real.fam_ne (h : Real Φ ρ σ st) {i : Nat} {oi : VObj} (hi : σ[i]? = some oi) (hc : cellObj oi = true) {c : List Value} {e f p : Nat} (hg : st.get (ρ i) = some (.cells c e f p))
  {x : Nat} {c' : List Value} {e' f' p' : Nat} (hx : st.get x = some (.cells c' e' f' p')) (hne : x ≠ ρ i) (hmat : Φ x ≠ none ∨ ∃ j o, σ[j]? = some o /\ live o = true /\ ρ j = x) : f' ≠ f := by
 intro hff
 subst hff
 have m1 := (h.wf.fam _ _ _ _ _ hg).2
 have m2 := (h.wf.fam _ _ _ _ _ hx).2
 unfold memOk at m1 m2
 cases hm : st.fm.get f' with
 | none =>
  rw [hm] at m1 m2
  exact hne (m2.trans m1.symm)
 | some ms =>
  rw [hm] at m2
  obtain ⟨a, b⟩ := h.apart hi hc hg hm m2 hne
  rcases hmat with k | ⟨j, o, hj, hl, e⟩
  ·exact k a
  ·exact b j o hj hl e
theorem set_get {σ : VS} {i : Nat} {o o' : VObj} (hi : σ[i]? = some o) (j : Nat) : (σ.set i o')[j]? = if j = i then some o' else σ[j]? := by
 rw [List.getElem?_set]
 have : i < σ.length := (List.getElem?_eq_some_iff.1 hi).1
 by_cases h : i = j
 ·subst h; simp [this]
 ·rw [if_neg h, if_neg (fun e => h e.symm)]
theorem Real.upd (h : Real Φ ρ σ st) {i : Nat} {oi o' : VObj} (hi : σ[i]? = some oi) (hli : live oi = true) {st' : St} (hwf : WF st') (hmlt : WM st')
  (hget : ∀ x, x ≠ ρ i -> (Φ x ≠ none ∨ ∃ j o, σ[j]? = some o /\ live o = true /\ ρ j = x) -> st'.get x = st.get x)
  (hfm : ∀ x c e f p, x ≠ ρ i -> (Φ x ≠ none ∨ ∃ j o, σ[j]? = some o /\ live o = true /\ ρ j = x) -> st.get x = some (.cells c e f p) -> st'.fm.get f = st.fm.get f)
  (hnof : ∀ f, Φ.nof f -> st'.fm.get f = none /\ f < st'.n)
  (hrnf : ∀ es els c e f p, o' = .row es els -> st'.get (ρ i) = some (.cells c e f p) -> ¬ Φ.nof f)
  (ho : OOk Φ ρ σ.length st' o' (ρ i))
  (hfam : ∀ es els c e f p ms x, o' = .row es els -> st'.get (ρ i) = some (.cells c e f p) -> st'.fm.get f = some ms -> x ∈ ms -> x ≠ ρ i -> Φ x = none /\ ∀ j o, σ[j]? = some o -> live o = true -> ρ j ≠ x) :
  Real Φ ρ (σ.set i o') st' := by
 have hnone := (h.obj i oi hi hli).2
 have hmat : ∀ j o, j ≠ i -> σ[j]? = some o -> live o = true -> ρ j ≠ ρ i := fun j o hj ho hl e => hj (h.inj j i o oi ho hi hl hli e)
 refine ⟨hwf, hmlt, fun b o hb => ?_, h.ndd, hnof, h.fzd, fun j es els c e f p hj hg => ?_, fun j o hj hl => ?_, fun j k oj ok hj hk hlj hlk e => ?_, fun j es els c e f p ms x hj hg hm hx hne => ?_⟩
 ·have hne : b ≠ ρ i := fun e => by rw [e, hnone] at hb; cases hb
  rw [hget b hne (.inl (by rw [hb]; simp))]
  exact h.fz b o hb
 ·rw [set_get hi] at hj
  by_cases e1 : j = i
  ·subst e1
   rw [if_pos rfl] at hj
   cases hj
   exact hrnf es els c e f p rfl hg
  ·rw [if_neg e1] at hj
   rw [hget _ (hmat j _ e1 hj rfl) (.inr ⟨j, _, hj, rfl, rfl⟩)] at hg
   exact h.rnf j es els c e f p hj hg
 ·rw [set_get hi] at hj
  by_cases e : j = i
  ·subst e
   rw [if_pos rfl] at hj
   cases hj
   exact ⟨by simpa using ho, hnone⟩
  ·rw [if_neg e] at hj
   have hk := h.obj j o hj hl
   have hne := hmat j o e hj hl
   refine ⟨?_, hk.2⟩
   have := (Stp.refl Φ ρ σ.length).obj (st := st) (st' := st') (hget _ hne (.inr ⟨j, o, hj, hl, rfl⟩)) (fun c e f p hc hn => by rw [hfm _ c e f p hne (.inr ⟨j, o, hj, hl, rfl⟩) hc]; exact hn) hk.1
   simpa using this
 ·rw [set_get hi] at hj hk
  by_cases e1 : j = i
  ·by_cases e2 : k = i
   ·rw [e1, e2]
   ·rw [if_neg e2] at hk
    subst e1
    exact absurd e.symm (hmat k ok e2 hk hlk)
  ·by_cases e2 : k = i
   ·rw [if_neg e1] at hj
    subst e2
    exact absurd e (hmat j oj e1 hj hlj)
   ·rw [if_neg e1] at hj
    rw [if_neg e2] at hk
    exact h.inj j k oj ok hj hk hlj hlk e
 ·have fin : (Φ x = none /\ ∀ j o, σ[j]? = some o -> live o = true -> ρ j ≠ x) -> Φ x = none /\ ∀ j o, (σ.set i o')[j]? = some o -> live o = true -> ρ j ≠ x := by
   rintro ⟨a, b⟩
   refine ⟨a, fun k ok hk hlk => ?_⟩
   rw [set_get hi] at hk
   by_cases e1 : k = i
   ·rw [e1]; exact b i oi hi hli
   ·rw [if_neg e1] at hk; exact b k ok hk hlk
  rw [set_get hi] at hj
  by_cases e1 : j = i
  ·subst e1
   rw [if_pos rfl] at hj
   cases hj
   exact fin (hfam es els c e f p ms x rfl hg hm hx hne)
  ·rw [if_neg e1] at hj
   have hnj := hmat j _ e1 hj rfl
   have hg' := hg
   rw [hget _ hnj (.inr ⟨j, _, hj, rfl, rfl⟩)] at hg'
   rw [hfm _ c e f p hnj (.inr ⟨j, _, hj, rfl, rfl⟩) hg'] at hm
   exact fin (h.fam j es els c e f p ms x hj hg' hm hx hne)
theorem Real.write (h : Real Φ ρ σ st) {i : Nat} {oi o' : VObj} (hi : σ[i]? = some oi) (hc : cellObj oi = true) {c c' : List Value} {e f p lo hi' : Nat}
  (hg : st.get (ρ i) = some (.cells c e f p))
  (ho : (∃ cs cs', oi = .box cs /\ o' = .box cs' /\ cs'.length = cs.length /\ c' = eraseL ρ cs' /\ VsOk Φ σ.length cs' /\ ∀ v ∈ cs', isCell v = true) ∨
   (∃ els els', oi = .row e els /\ o' = .row e els' /\ c' = eraseL ρ els'.flatten /\ (∀ x ∈ els', x.length = e) /\ (∀ x ∈ els', VsOk Φ σ.length x) /\ ∀ x ∈ els', ∀ v ∈ x, isCell v = true)) :
  Real Φ ρ (σ.set i o') ((st.put (ρ i) (.cells c' e f p)).kill f (ρ i) lo hi') := by
 have hl : live oi = true := by cases oi <;> first | rfl | cases hc
 have hgp : ∀ x, (st.put (ρ i) (.cells c' e f p)).get x = if x = ρ i then some (.cells c' e f p) else st.get x := fun x => St.get_put _ _ _ _
 have hout : ∀ x, x ≠ ρ i -> (Φ x ≠ none ∨ ∃ j o, σ[j]? = some o /\ live o = true /\ ρ j = x) -> ((st.put (ρ i) (.cells c' e f p)).kill f (ρ i) lo hi').get x = st.get x := by
  intro x hx hmat
  rw [kill_out, hgp, if_neg hx]
  intro ms hm hxm
  obtain ⟨a, b⟩ := h.apart hi hc hg (ms := ms) hm hxm hx
  rcases hmat with k | ⟨j, o, hj, hl, e⟩
  ·exact k a
  ·exact b j o hj hl e
 have hself : ((st.put (ρ i) (.cells c' e f p)).kill f (ρ i) lo hi').get (ρ i) = some (.cells c' e f p) := by rw [St.kill_self, hgp, if_pos rfl]
 have hfmeq : ∀ g, (st.put (ρ i) (.cells c' e f p)).fm.get g = st.fm.get g := fun _ => rfl
 have hnf : st.fm.get f = none -> ((st.put (ρ i) (.cells c' e f p)).kill f (ρ i) lo hi').fm.get f = none := fun hn => by
  rw [(kill_fm (st := st.put (ρ i) (.cells c' e f p)) f).2.1 hn, hfmeq, hn]
 have hmlt : WM ((st.put (ρ i) (.cells c' e f p)).kill f (ρ i) lo hi') := (h.wm.put_row hg).kill
 refine h.upd hi hl (WF.kill (h.wf.put_row hg)) hmlt hout (fun x c1 e1 f1 p1 hx hmat hgx => ?_) ?_ ?_ ?_ ?_
 ·have hne := h.fam_ne hi hc hg hgx hx hmat
  rw [(kill_fm f1).1 hne, hfmeq]
 ·intro g hg'
  obtain ⟨a, b⟩ := h.nof g hg'
  refine ⟨?_, by rw [St.kill_n]; exact b⟩
  by_cases e1 : g = f
  ·subst e1; exact hnf a
  ·rw [(kill_fm (st := st.put (ρ i) (.cells c' e f p)) g).1 e1, hfmeq]; exact a
 ·intro es els c1 e1 f1 p1 he hg1
  rw [hself] at hg1
  cases hg1
  rcases ho with ⟨cs, cs', _, rfl, _⟩ | ⟨els0, els', rfl, rfl, _⟩
  ·cases he
  ·exact h.rnf i _ els0 _ _ _ _ hi hg
 ·rcases ho with ⟨cs, cs', rfl, rfl, hl, rfl, h1, h2⟩ | ⟨els, els', rfl, rfl, rfl, h1, h2, h3⟩
  ·obtain ⟨⟨⟨k, k0⟩, _⟩, _⟩ := h.obj i _ hi rfl
   rw [hg] at k; cases k
   exact ⟨⟨by rw [hself, hl], hnf k0⟩, h1, h2⟩
  ·exact ⟨⟨_, _, hself⟩, h1, h2, h3⟩
 ·intro es els c1 e1 f1 p1 ms x he hg1 hm hx hne
  rw [hself] at hg1
  cases hg1
  rcases ho with ⟨cs, cs', _, rfl, _, _⟩ | ⟨els0, els', rfl, rfl, _⟩
  ·cases he
  ·cases hfm : st.fm.get f with
   | none => rw [hnf hfm] at hm; cases hm
   | some ms0 =>
    obtain ⟨ms', h1, h2⟩ := (kill_fm (st := st.put (ρ i) (.cells c' e f p)) (fam := f) (b := ρ i) (lo := lo) (hi := hi') f).2.2 ms0 hfm
    rw [h1] at hm
    cases hm
    exact h.fam i _ els0 c e f p ms0 x hi hg hfm (h2 x hx) hne
theorem Real.put (h : Real Φ ρ σ st) {i : Nat} {oi o' : VObj} (hi : σ[i]? = some oi) (hl : live oi = true) (hc : cellObj oi = false) (hc' : cellObj o' = false) {a : AObj} (ha : ∀ c e f p, a ≠ .cells c e f p)
  (ho : OOk Φ ρ σ.length (st.put (ρ i) a) o' (ρ i)) : Real Φ ρ (σ.set i o') (st.put (ρ i) a) := by
 have hgp : ∀ x, (st.put (ρ i) a).get x = if x = ρ i then some a else st.get x := fun x => St.get_put _ _ _ _
 have hwm : WM (st.put (ρ i) a) := by
  have hk := (h.obj i oi hi hl).1
  cases oi with
  | box cs => cases hc
  | row es els => cases hc
  | map es clock => exact h.wm.put_other hk.1 (fun e => by cases e) (fun _ _ _ _ e => by cases e)
  | loop L => obtain ⟨al, k, _⟩ := hk; exact h.wm.put_other k (fun e => by cases e) (fun _ _ _ _ e => by cases e)
  | defl t => exact h.wm.put_other hk (fun e => by cases e) (fun _ _ _ _ e => by cases e)
  | gone => cases hl
 refine h.upd hi hl ⟨fun b o hb => ?_, fun b c e f p hb => ?_, h.wf.fml⟩ hwm (fun x hx _ => by rw [hgp, if_neg hx]) (fun _ _ _ _ _ _ _ _ => rfl) h.nof (fun es els c e f p he => by subst he; cases hc') ho ?_
 ·rw [hgp] at hb
  split at hb
  ·rename_i e; rw [e]; exact h.lt hi hl
  ·exact h.wf.lt b o hb
 ·rw [hgp] at hb
  split at hb
  ·injection hb with hb; exact absurd hb (ha c e f p)
  ·exact h.wf.fam b c e f p hb
 ·intro es els c e f p ms x he
  subst he
  cases hc'
def addR (ρ : Nat -> Nat) (i b : Nat) : Nat -> Nat := fun j => if j = i then b else ρ j
theorem stp_add (Φ : Fz) (ρ : Nat -> Nat) (m b : Nat) : Stp Φ ρ m Φ (addR ρ m b) (m + 1) :=
 ⟨Fz.le_refl _, fun i hi => if_neg (by omega), by omega⟩
theorem snoc_get (σ : VS) (o : VObj) (j : Nat) : (σ ++ [o])[j]? = if j = σ.length then some o else σ[j]? := by
 rw [List.getElem?_append]
 by_cases h : j < σ.length
 ·rw [if_pos h, if_neg (by omega)]
 ·rw [if_neg h]
  by_cases e : j = σ.length
  ·subst e; simp
  ·rw [if_neg e, List.getElem?_eq_none (by simp; omega), List.getElem?_eq_none (by omega)]
theorem Real.new (h : Real Φ ρ σ st) {o : VObj} {a : AObj} (ho : ownFam st a) (hok : OOk Φ (addR ρ σ.length st.n) (σ.length + 1) (st.new a) o st.n) :
  Real Φ (addR ρ σ.length st.n) (σ ++ [o]) (st.new a) := by
 have hgn : ∀ x, (st.new a).get x = if x = st.n then some a else st.get x := fun x => St.get_new _ _ _
 have hs := stp_add Φ ρ σ.length st.n
 have hold : ∀ j oj, σ[j]? = some oj -> j < σ.length := fun j oj hj => (List.getElem?_eq_some_iff.1 hj).1
 have hadd : addR ρ σ.length st.n σ.length = st.n := if_pos rfl
 have hfn : Φ st.n = none := by
  cases hb : Φ st.n with
  | none => rfl
  | some o => exact absurd (h.flt hb) (Nat.lt_irrefl _)
 have hfm : (st.new a).fm = st.fm := rfl
 refine ⟨h.wf.new ho, h.wm.new, fun b o hb => ?_, h.ndd, fun f hf => ⟨(h.nof f hf).1, Nat.lt_succ_of_lt (h.nof f hf).2⟩, h.fzd, fun j es els c e f p hj hg => ?_, fun j oj hj hl => ?_, fun j k oj ok hj hk hlj hlk e => ?_, fun j es els c e f p ms x hj hg hm hx hne => ?_⟩
 ·rw [hgn, if_neg (Nat.ne_of_lt (h.flt hb))]
  exact h.fz b o hb
 ·rw [snoc_get] at hj
  by_cases e1 : j = σ.length
  ·subst e1
   rw [hadd, hgn, if_pos rfl] at hg
   cases hg
   have hfs : f = st.n := by simpa [ownFam] using ho
   intro hn
   have := (h.nof f hn).2
   omega
  ·rw [if_neg e1] at hj
   rw [hs.rho j (hold j _ hj), hgn, if_neg (Nat.ne_of_lt (h.lt hj rfl))] at hg
   exact h.rnf j es els c e f p hj hg
 ·rw [snoc_get] at hj
  by_cases e : j = σ.length
  ·subst e
   rw [if_pos rfl] at hj
   cases hj
   rw [hadd]
   exact ⟨by simpa using hok, hfn⟩
  ·rw [if_neg e] at hj
   obtain ⟨k1, k2⟩ := h.obj j oj hj hl
   rw [hs.rho j (hold j oj hj)]
   refine ⟨?_, k2⟩
   have := hs.obj (st := st) (st' := st.new a) (by rw [hgn, if_neg (Nat.ne_of_lt (h.lt hj hl))]) (fun _ _ _ _ _ hn => hn) k1
   simpa using this
 ·rw [snoc_get] at hj hk
  by_cases e1 : j = σ.length
  ·by_cases e2 : k = σ.length
   ·rw [e1, e2]
   ·rw [if_neg e2] at hk
    subst e1
    rw [hadd, hs.rho k (hold k ok hk)] at e
    have := h.lt hk hlk
    omega
  ·rw [if_neg e1] at hj
   by_cases e2 : k = σ.length
   ·subst e2
    rw [hadd, hs.rho j (hold j oj hj)] at e
    have := h.lt hj hlj
    omega
   ·rw [if_neg e2] at hk
    rw [hs.rho k (hold k ok hk), hs.rho j (hold j oj hj)] at e
    exact h.inj j k oj ok hj hk hlj hlk e
 ·rw [hfm] at hm
  have fin : (Φ x = none /\ ∀ j o, σ[j]? = some o -> live o = true -> ρ j ≠ x) -> x ≠ st.n -> Φ x = none /\ ∀ j oj, (σ ++ [o])[j]? = some oj -> live oj = true -> addR ρ σ.length st.n j ≠ x := by
   rintro ⟨a, b⟩ hxn
   refine ⟨a, fun k ok hk hlk => ?_⟩
   rw [snoc_get] at hk
   by_cases e1 : k = σ.length
   ·subst e1; rw [hadd]; exact hxn.symm
   ·rw [if_neg e1] at hk; rw [hs.rho k (hold k ok hk)]; exact b k ok hk hlk
  rw [snoc_get] at hj
  by_cases e1 : j = σ.length
  ·
   subst e1
   rw [hadd, hgn, if_pos rfl] at hg
   cases hg
   have : f = st.n /\ True := ⟨by simpa [ownFam] using ho, trivial⟩
   rw [this.1] at hm
   exact absurd (h.wf.fml _ _ hm) (Nat.lt_irrefl _)
  ·rw [if_neg e1] at hj
   rw [hs.rho j (hold j _ hj)] at hg hne
   have hlt := h.lt hj rfl
   rw [hgn, if_neg (Nat.ne_of_lt hlt)] at hg
   have k := h.fam j es els c e f p ms x hj hg hm hx hne
   exact fin k (Nat.ne_of_lt (h.wm.lt f ms x hm hx))
theorem Real.junk (h : Real Φ ρ σ st) {a : AObj} (ho : ownFam st a) : Real Φ ρ σ (st.new a) := by
 have hgn : ∀ x, (st.new a).get x = if x = st.n then some a else st.get x := fun x => St.get_new _ _ _
 refine ⟨h.wf.new ho, h.wm.new, fun b o hb => ?_, h.ndd, fun f hf => ⟨(h.nof f hf).1, Nat.lt_succ_of_lt (h.nof f hf).2⟩, h.fzd, fun j es els c e f p hj hg => ?_, fun j oj hj hl => ?_, h.inj, fun j es els c e f p ms x hj hg hm hx hne => ?_⟩
 ·rw [hgn, if_neg (Nat.ne_of_lt (h.flt hb))]
  exact h.fz b o hb
 ·rw [hgn, if_neg (Nat.ne_of_lt (h.lt hj rfl))] at hg
  exact h.rnf j es els c e f p hj hg
 ·obtain ⟨k1, k2⟩ := h.obj j oj hj hl
  exact ⟨(Stp.refl Φ ρ _).obj (st := st) (st' := st.new a) (by rw [hgn, if_neg (Nat.ne_of_lt (h.lt hj hl))]) (fun _ _ _ _ _ hn => hn) k1, k2⟩
 ·rw [hgn, if_neg (Nat.ne_of_lt (h.lt hj rfl))] at hg
  exact h.fam j es els c e f p ms x hj hg hm hx hne
def addF (Φ : Fz) (b : Nat) (o : AObj) : Fz := ⟨fun x => if x = b then some o else Φ x, fun x => x = b ∨ Φ.dat x, Φ.nof⟩
theorem addF_at (Φ : Fz) (b : Nat) (o : AObj) (x : Nat) : (addF Φ b o) x = if x = b then some o else Φ x := rfl
theorem addF_le {Φ : Fz} {b : Nat} {o : AObj} (h : Φ b = none) : Φ.le (addF Φ b o) := ⟨fun x y hx => by
 rw [addF_at]
 split
 ·rename_i e; rw [e, h] at hx; cases hx
 ·exact hx, fun x y hx => ⟨fun hd => hd.elim (fun e => by rw [e, h] at hx; cases hx) id, .inr⟩, fun _ h => h⟩
theorem Real.adopt (h : Real Φ ρ σ st) {b : Nat} {c : List Value} {es fam p : Nat} (hb : st.get b = some (.cells c es fam p)) (hΦ : Φ b = none)
  (hno : ∀ j o, σ[j]? = some o -> live o = true -> ρ j ≠ b) (hlf : ∀ j es els c e f p, σ[j]? = some (.row es els) -> st.get (ρ j) = some (.cells c e f p) -> f ≠ fam)
  (hfd : ∀ y c e p, Φ y ≠ some (.cells c e fam p)) :
  Real (addF Φ b (.cells c es fam p)) ρ σ st := by
 have hs : Stp Φ ρ σ.length (addF Φ b (.cells c es fam p)) ρ σ.length := ⟨addF_le hΦ, fun _ _ => rfl, Nat.le_refl _⟩
 refine ⟨h.wf, h.wm, fun x o hx => ?_, fun x hx => ?_, h.nof, fun x y c1 e1 f1 p1 c2 e2 p2 hx hy => ?_, h.rnf, fun j oj hj hl => ?_, h.inj, fun j es' els c' e f p' ms x hj hg hm hx hne => ?_⟩
 ·rw [addF_at] at hx
  split at hx
  ·rename_i e; cases hx; rw [e]; exact hb
  ·exact h.fz x o hx
 ·rw [addF_at] at hx
  split at hx
  ·cases hx
  ·exact h.ndd x hx
 ·rw [addF_at] at hx hy
  split at hx
  ·rename_i ex
   cases hx
   split at hy
   ·rename_i ey; rw [ex, ey]
   ·exact absurd hy (hfd _ _ _ _)
  ·split at hy
   ·cases hy; exact absurd hx (hfd _ _ _ _)
   ·exact h.fzd x y _ _ _ _ _ _ _ hx hy
 ·obtain ⟨k1, k2⟩ := h.obj j oj hj hl
  refine ⟨hs.obj rfl (fun _ _ _ _ _ hn => hn) k1, ?_⟩
  rw [addF_at, if_neg (hno j oj hj hl)]
  exact k2
 ·obtain ⟨k1, k2⟩ := h.fam j es' els c' e f p' ms x hj hg hm hx hne
  refine ⟨?_, k2⟩
  rw [addF_at]
  split
  ·rename_i e1
   subst e1
   exact absurd (h.wm.mem f ms x c es fam p hm hx hb).symm (hlf j es' els c' e f p' hj hg)
  ·exact k1
theorem Real.adoptRow (h : Real Φ ρ σ st) {b : Nat} {es fam p : Nat} {els : List (List V)} (hb : st.get b = some (.cells (eraseL ρ els.flatten) es fam p)) (hΦ : Φ b = none)
  (hno : ∀ j o, σ[j]? = some o -> live o = true -> ρ j ≠ b) (hlf : ∀ j es els c e f p, σ[j]? = some (.row es els) -> st.get (ρ j) = some (.cells c e f p) -> f ≠ fam)
  (hm : ∀ ms x, st.fm.get fam = some ms -> x ∈ ms -> x ≠ b -> Φ x = none /\ ∀ j o, σ[j]? = some o -> live o = true -> ρ j ≠ x) (hnf : ¬ Φ.nof fam)
  (h1 : ∀ e ∈ els, e.length = es) (h2 : ∀ e ∈ els, VsOk Φ σ.length e) (h3 : ∀ e ∈ els, ∀ v ∈ e, isCell v = true) :
  Real Φ (addR ρ σ.length b) (σ ++ [.row es els]) st := by
 have hs := stp_add Φ ρ σ.length b
 have hold : ∀ j oj, σ[j]? = some oj -> j < σ.length := fun j oj hj => (List.getElem?_eq_some_iff.1 hj).1
 have hadd : addR ρ σ.length b σ.length = b := if_pos rfl
 have fin : ∀ x, (Φ x = none /\ ∀ j o, σ[j]? = some o -> live o = true -> ρ j ≠ x) -> x ≠ b -> Φ x = none /\ ∀ j oj, (σ ++ [.row es els])[j]? = some oj -> live oj = true -> addR ρ σ.length b j ≠ x := by
  rintro x ⟨a, k⟩ hxn
  refine ⟨a, fun j oj hj hl => ?_⟩
  rw [snoc_get] at hj
  by_cases e1 : j = σ.length
  ·subst e1; rw [hadd]; exact hxn.symm
  ·rw [if_neg e1] at hj; rw [hs.rho j (hold j oj hj)]; exact k j oj hj hl
 refine ⟨h.wf, h.wm, h.fz, h.ndd, h.nof, h.fzd, fun j es' els' c e f p' hj hg => ?_, fun j oj hj hl => ?_, fun j k oj ok hj hk hlj hlk e => ?_, fun j es' els' c e f p' ms x hj hg hm' hx hne => ?_⟩
 ·rw [snoc_get] at hj
  by_cases e1 : j = σ.length
  ·subst e1
   rw [hadd, hb] at hg
   cases hg
   exact hnf
  ·rw [if_neg e1] at hj
   rw [hs.rho j (hold j _ hj)] at hg
   exact h.rnf j es' els' c e f p' hj hg
 ·rw [snoc_get] at hj
  by_cases e : j = σ.length
  ·subst e
   rw [if_pos rfl] at hj
   cases hj
   rw [hadd]
   refine ⟨⟨⟨fam, p, ?_⟩, h1, fun e he => ?_, h3⟩, hΦ⟩
   ·rw [hb, hs.eraseL (flatOk h2)]
   ·have := hs.oks (h2 e he); simpa using this
  ·rw [if_neg e] at hj
   obtain ⟨k1, k2⟩ := h.obj j oj hj hl
   rw [hs.rho j (hold j oj hj)]
   refine ⟨?_, k2⟩
   have := hs.obj (st := st) (st' := st) rfl (fun _ _ _ _ _ hn => hn) k1
   simpa using this
 ·rw [snoc_get] at hj hk
  by_cases e1 : j = σ.length
  ·by_cases e2 : k = σ.length
   ·rw [e1, e2]
   ·rw [if_neg e2] at hk
    subst e1
    rw [hadd, hs.rho k (hold k ok hk)] at e
    exact absurd e.symm (hno k ok hk hlk)
  ·rw [if_neg e1] at hj
   by_cases e2 : k = σ.length
   ·subst e2
    rw [hadd, hs.rho j (hold j oj hj)] at e
    exact absurd e (hno j oj hj hlj)
   ·rw [if_neg e2] at hk
    rw [hs.rho k (hold k ok hk), hs.rho j (hold j oj hj)] at e
    exact h.inj j k oj ok hj hk hlj hlk e
 ·rw [snoc_get] at hj
  by_cases e1 : j = σ.length
  ·subst e1
   rw [hadd] at hg hne
   rw [hb] at hg
   cases hg
   exact fin x (hm ms x hm' hx hne) hne
  ·rw [if_neg e1] at hj
   rw [hs.rho j (hold j _ hj)] at hg hne
   have k := h.fam j es' els' c e f p' ms x hj hg hm' hx hne
   refine fin x k fun e2 => ?_
   subst e2
   exact absurd (h.wm.mem f ms x _ es fam p hm' hx hb).symm (hlf j es' els' c e f p' hj hg)
theorem Real.drop (h : Real Φ ρ σ st) {i : Nat} {oi : VObj} (hi : σ[i]? = some oi) (hl : live oi = true) : Real Φ ρ (σ.set i .gone) st :=
 h.upd hi hl h.wf h.wm (fun _ _ _ => rfl) (fun _ _ _ _ _ _ _ _ => rfl) h.nof (fun _ _ _ _ _ _ he => by cases he) trivial (fun _ _ _ _ _ _ _ _ he => by cases he)
theorem set_gone {i : Nat} {oi : VObj} (hi : σ[i]? = some oi) {j : Nat} {o : VObj} (hj : (σ.set i .gone)[j]? = some o) (hl : live o = true) : j ≠ i /\ σ[j]? = some o := by
 rw [set_get hi] at hj
 by_cases e : j = i
 ·rw [if_pos e] at hj; cases hj; cases hl
 ·rw [if_neg e] at hj; exact ⟨e, hj⟩
theorem Real.freeze (h : Real Φ ρ σ st) {i es : Nat} {els : List (List V)} (hi : σ[i]? = some (.row es els)) {c : List Value} {e f p : Nat} (hg : st.get (ρ i) = some (.cells c e f p)) :
  Real (addF Φ (ρ i) (.cells c e f p)) ρ (σ.set i .gone) st := by
 have hn := (h.obj i _ hi rfl).2
 refine (h.drop hi rfl).adopt hg hn (fun j o hj hl => ?_) (fun j es' els' c' e' f' p' hj hg' => ?_) (fun y c' e' p' hy => ?_)
 ·obtain ⟨h1, h2⟩ := set_gone hi hj hl
  exact fun e => h1 (h.inj j i o _ h2 hi hl rfl e)
 ·obtain ⟨h1, h2⟩ := set_gone hi hj rfl
  have hne : ρ j ≠ ρ i := fun e => h1 (h.inj j i _ _ h2 hi rfl rfl e)
  exact h.fam_ne hi rfl hg hg' hne (.inr ⟨j, _, h2, rfl, rfl⟩)
 ·have hne : y ≠ ρ i := fun e => by rw [e, hn] at hy; cases hy
  exact h.fam_ne hi rfl hg (h.fz _ _ hy) hne (.inl (by rw [hy]; simp)) rfl
theorem Real.newFz (h : Real Φ ρ σ st) {c : List Value} {es : Nat} : Real (addF Φ st.n (.cells c es st.n 0)) ρ σ (st.new (.cells c es st.n 0)) := by
 have hfn : Φ st.n = none := by
  cases hb : Φ st.n with
  | none => rfl
  | some o => exact absurd (h.flt hb) (Nat.lt_irrefl _)
 have hgn : ∀ x, (st.new (.cells c es st.n 0)).get x = if x = st.n then some (.cells c es st.n 0) else st.get x := fun x => St.get_new _ _ _
 refine (h.junk (a := .cells c es st.n 0) rfl).adopt (by rw [hgn, if_pos rfl]) hfn (fun j o hj hl => Nat.ne_of_lt (h.lt hj hl)) (fun j es' els' c' e' f' p' hj hg => ?_) (fun y c' e' p' hy => ?_)
 ·rw [hgn, if_neg (Nat.ne_of_lt (h.lt hj rfl))] at hg
  exact Nat.ne_of_lt (h.wf.fam _ _ _ _ _ hg).1
 ·exact Nat.lt_irrefl _ (h.wf.fam _ _ _ _ _ (h.fz _ _ hy)).1
section
variable {es fam fo o len n i : Nat} {c old xs : List Value} {els : List (List V)} {e0 : Nat}
theorem grown_fm (b : Nat) (f : Nat) : (f ≠ fam -> (grown st es fam fo b o len n c old xs).fm.get f = st.fm.get f) /\
  (∀ ms x, (grown st es fam fo b o len n c old xs).fm.get fam = some ms -> x ∈ ms -> x = st.n ∨ x = b ∨ ∃ ms0, st.fm.get fam = some ms0 /\ x ∈ ms0) := by
 have kf := kill_fm (st := st) (fam := fam) (b := st.n) (lo := fo + o + len * es) (hi := fo + o + (len + n) * es) f
 unfold grown
 dsimp only
 refine ⟨fun hne => ?_, fun ms x hm hx => ?_⟩
 ·rw [Tr.get_set, if_neg hne]
  split
  ·exact kf.1 hne
  ·exact kf.1 hne
 ·rw [Tr.get_set, if_pos rfl] at hm
  cases hm
  rcases List.mem_cons.1 hx with e | hx
  ·exact .inl e
  ·right
   split at hx
   ·rename_i ms1 h1
    right
    cases hfm : st.fm.get fam with
    | none => rw [St.kill_none hfm, hfm] at h1; cases h1
    | some ms0 =>
     obtain ⟨ms', k1, k2⟩ := kf.2.2 ms0 hfm
     rw [k1] at h1
     cases h1
     exact ⟨ms0, rfl, k2 x hx⟩
   ·split at hx
    ·left; simpa using hx
    ·simp at hx
theorem Real.grow (h : Real Φ ρ σ st) (hi : σ[i]? = some (.row e0 els)) (hg : st.get (ρ i) = some (.cells c es fam fo)) :
  Real Φ ρ (σ.set i .gone) (grown st es fam fo (ρ i) o len n c old xs) /\
  (∀ j es' els' c' e' f' p', (σ.set i .gone)[j]? = some (.row es' els') -> (grown st es fam fo (ρ i) o len n c old xs).get (ρ j) = some (.cells c' e' f' p') -> f' ≠ fam) /\
  (∀ ms x, (grown st es fam fo (ρ i) o len n c old xs).fm.get fam = some ms -> x ∈ ms -> x ≠ st.n -> Φ x = none /\ ∀ j o, (σ.set i .gone)[j]? = some o -> live o = true -> ρ j ≠ x) := by
 have hli := h.lt hi rfl
 have hout : ∀ x, x ≠ ρ i -> (Φ x ≠ none ∨ ∃ j o, σ[j]? = some o /\ live o = true /\ ρ j = x) -> (grown st es fam fo (ρ i) o len n c old xs).get x = st.get x := by
  intro x hx hmat
  have hxn : x ≠ st.n := by
   rcases hmat with k | ⟨j, o, hj, hl, e⟩
   ·cases hb : Φ x with
    | none => exact absurd hb k
    | some o => exact Nat.ne_of_lt (h.flt hb)
   ·rw [<- e]; exact Nat.ne_of_lt (h.lt hj hl)
  rw [grown_get, if_neg hxn]
  have hk : (st.kill fam st.n (fo + o + len * es) (fo + o + (len + n) * es)).get x = st.get x := by
   refine kill_out fun ms hm hxm => ?_
   obtain ⟨a, b⟩ := h.apart hi rfl hg (ms := ms) hm hxm hx
   rcases hmat with k | ⟨j, o, hj, hl, e⟩
   ·exact k a
   ·exact b j o hj hl e
  unfold killed
  dsimp only
  split
  ·exact hk
  ·rw [St.get_put, if_neg hx, hk]
 have hwf := grown_wf (o := o) (len := len) (n := n) (old := old) (xs := xs) h.wf hg
 have hgf := fun b f => grown_fm (st := st) (es := es) (fam := fam) (fo := fo) (o := o) (len := len) (n := n) (c := c) (old := old) (xs := xs) b f
 have hwm : WM (grown st es fam fo (ρ i) o len n c old xs) := by
  have hn : (grown st es fam fo (ρ i) o len n c old xs).n = st.n + 1 := rfl
  refine ⟨fun f ms x hm hx => ?_, fun f ms x ob hm hx hgx => ?_⟩
  ·rw [hn]
   by_cases hf : f = fam
   ·subst hf
    rcases (hgf (ρ i) f).2 ms x hm hx with e | e | ⟨ms0, k1, k2⟩
    ·omega
    ·omega
    ·have := h.wm.lt f ms0 x k1 k2; omega
   ·rw [(hgf (ρ i) f).1 hf] at hm
    have := h.wm.lt f ms x hm hx; omega
  ·by_cases hf : f = fam
   ·subst hf
    rw [grown_get] at hgx
    split at hgx
    ·cases hgx; exact .inr ⟨_, _, _, rfl⟩
    ·rename_i hxn
     rcases killed_old hgx with e0 | hold
     ·exact .inl e0
     ·rcases (hgf (ρ i) f).2 ms x hm hx with e | e | ⟨ms0, k1, k2⟩
      ·exact absurd e hxn
      ·rw [e, hg] at hold; cases hold; exact .inr ⟨_, _, _, rfl⟩
      ·exact h.wm.row f ms0 x _ k1 k2 hold
   ·rw [(hgf (ρ i) f).1 hf] at hm
    have hlt := h.wm.lt f ms x hm hx
    rw [grown_get, if_neg (Nat.ne_of_lt hlt)] at hgx
    rcases killed_old hgx with e0 | hold
    ·exact .inl e0
    ·exact h.wm.row f ms x _ hm hx hold
 have hr : Real Φ ρ (σ.set i .gone) (grown st es fam fo (ρ i) o len n c old xs) :=
  h.upd hi rfl hwf hwm hout (fun x c1 e1 f1 p1 hx hmat hgx => (hgf (ρ i) f1).1 (h.fam_ne hi rfl hg hgx hx hmat))
   (fun f hf => ⟨by
    have hff : f ≠ fam := fun e => h.rnf i _ _ _ _ _ _ hi hg (e ▸ hf)
    rw [(hgf (ρ i) f).1 hff]; exact (h.nof f hf).1, Nat.lt_succ_of_lt (h.nof f hf).2⟩) (fun _ _ _ _ _ _ he => by cases he) trivial (fun _ _ _ _ _ _ _ _ he => by cases he)
 refine ⟨hr, fun j es' els' c' e' f' p' hj hgj => ?_, fun ms x hm hx hne => ?_⟩
 ·obtain ⟨h1, h2⟩ := set_gone hi hj rfl
  have hne : ρ j ≠ ρ i := fun e => h1 (h.inj j i _ _ h2 hi rfl rfl e)
  rw [hout _ hne (.inr ⟨j, _, h2, rfl, rfl⟩)] at hgj
  exact h.fam_ne hi rfl hg hgj hne (.inr ⟨j, _, h2, rfl, rfl⟩)
 ·rcases (hgf (ρ i) fam).2 ms x hm hx with e | e | ⟨ms0, k1, k2⟩
  ·exact absurd e hne
  ·subst e
   refine ⟨(h.obj i _ hi rfl).2, fun j o hj hl e => ?_⟩
   obtain ⟨h1, h2⟩ := set_gone hi hj hl
   exact h1 (h.inj j i o _ h2 hi hl rfl e)
  ·by_cases hxi : x = ρ i
   ·subst hxi
    refine ⟨(h.obj i _ hi rfl).2, fun j o hj hl e => ?_⟩
    obtain ⟨h1, h2⟩ := set_gone hi hj hl
    exact h1 (h.inj j i o _ h2 hi hl rfl e)
   ·obtain ⟨a, b⟩ := h.fam i _ _ _ _ _ _ ms0 x hi hg k1 k2 hxi
    exact ⟨a, fun j o hj hl => b j o (set_gone hi hj hl).2 hl⟩
end
end
theorem vtake_elim : ∀ (n : Nat) (e : List V) (k : List V -> Prop), vtake n e k -> n <= e.length /\ k (e.take n) := by
 intro n
 induction n with
 | zero => intro e k h; cases e <;> exact ⟨Nat.zero_le _, h⟩
 | succ n ih =>
  intro e k h
  cases e with
  | nil => exact h.elim
  | cons x r =>
   obtain ⟨h1, h2⟩ := ih r _ h
   exact ⟨Nat.succ_le_succ h1, h2⟩
theorem vcut_elim : ∀ (e : List V) (f n : Nat) (k : List V -> Prop), vcut e f n k -> f + n <= e.length /\ k ((e.drop f).take n) := by
 intro e
 induction e with
 | nil =>
  intro f n k h
  cases f with
  | zero => obtain ⟨h1, h2⟩ := vtake_elim n [] k h; exact ⟨by simpa using h1, h2⟩
  | succ f => exact h.elim
 | cons x r ih =>
  intro f n k h
  cases f with
  | zero => obtain ⟨h1, h2⟩ := vtake_elim n (x :: r) k h; exact ⟨by simpa using h1, h2⟩
  | succ f =>
   obtain ⟨h1, h2⟩ := ih f n k h
   exact ⟨by simp only [List.length_cons]; omega, h2⟩
theorem vtakeD_elim : ∀ (n : Nat) (e : List D) (k : List V -> Prop), vtakeD n e k -> n <= e.length /\ k ((e.take n).map V.d) := by
 intro n
 induction n with
 | zero => intro e k h; cases e <;> exact ⟨Nat.zero_le _, h⟩
 | succ n ih =>
  intro e k h
  cases e with
  | nil => exact h.elim
  | cons x r =>
   obtain ⟨h1, h2⟩ := ih r _ h
   exact ⟨Nat.succ_le_succ h1, h2⟩
theorem vdropD_elim : ∀ (n : Nat) (e : List D) (k : List D -> Prop), vdropD n e k -> n <= e.length /\ k (e.drop n) := by
 intro n
 induction n with
 | zero => intro e k h; cases e <;> exact ⟨Nat.zero_le _, h⟩
 | succ n ih =>
  intro e k h
  cases e with
  | nil => exact h.elim
  | cons x r =>
   obtain ⟨h1, h2⟩ := ih r _ h
   exact ⟨Nat.succ_le_succ h1, h2⟩
def lay {α : Type} (c : List α) (f : Nat) (vs : List α) : List α := c.take f ++ vs ++ c.drop (f + vs.length)
theorem vlset_elim : ∀ (c : List V) (f : Nat) (vs : List V) (k : List V -> Prop), vlset c f vs k -> f + vs.length <= c.length /\ k (lay c f vs) := by
 intro c
 induction c with
 | nil =>
  intro f vs k h
  cases f with
  | zero => cases vs with
   | nil => exact ⟨by simp, by simp [lay]; exact h⟩
   | cons _ _ => exact h.elim
  | succ f => cases vs <;> exact h.elim
 | cons x c ih =>
  intro f vs k h
  cases f with
  | zero => cases vs with
   | nil => exact ⟨by simp, by simp [lay]; exact h⟩
   | cons v vs =>
    obtain ⟨h1, h2⟩ := ih 0 vs _ h
    refine ⟨by simp at h1 ⊢; exact h1, ?_⟩
    simpa [lay] using h2
  | succ f =>
   have h : vlset c f vs fun c' => k (x :: c') := by cases vs <;> exact h
   obtain ⟨h1, h2⟩ := ih f vs _ h
   refine ⟨by simp only [List.length_cons]; omega, ?_⟩
   have e : lay (x :: c) (f + 1) vs = x :: lay c f vs := by
    simp only [lay, List.take_succ_cons, show f + 1 + vs.length = (f + vs.length) + 1 from by omega, List.drop_succ_cons, List.cons_append]
   rw [e]; exact h2
theorem listSet_lay : ∀ (c : List Value) (f : Nat) (vs : List Value), f + vs.length <= c.length -> listSet c f vs = lay c f vs := by
 intro c
 induction c with
 | nil =>
  intro f vs h
  cases vs with
  | nil => simp [listSet, lay]
  | cons _ _ => simp at h
 | cons x c ih =>
  intro f vs h
  cases vs with
  | nil => simp [listSet, lay]
  | cons v vs =>
   cases f with
   | zero =>
    rw [listSet, ih 0 vs (by simp at h ⊢; exact h)]
    simp [lay]
   | succ f =>
    rw [listSet, ih f (v :: vs) (by simp at h ⊢; omega)]
    simp only [lay, List.take_succ_cons, show f + 1 + (v :: vs).length = (f + (v :: vs).length) + 1 from by omega, List.drop_succ_cons, List.cons_append]
theorem lay_length {α : Type} {c : List α} {f : Nat} {vs : List α} (h : f + vs.length <= c.length) : (lay c f vs).length = c.length := by
 simp only [lay, List.length_append, List.length_take, List.length_drop]; omega
theorem lay_map {α β : Type} (g : α -> β) (c : List α) (f : Nat) (vs : List α) : (lay c f vs).map g = lay (c.map g) f (vs.map g) := by
 simp [lay, List.map_take, List.map_drop]
theorem lay_mem {α : Type} {c : List α} {f : Nat} {vs : List α} {x : α} (h : x ∈ lay c f vs) : x ∈ c ∨ x ∈ vs := by
 simp only [lay, List.mem_append] at h
 rcases h with (h | h) | h
 ·exact .inl (List.mem_of_mem_take h)
 ·exact .inr h
 ·exact .inl (List.mem_of_mem_drop h)
theorem vsnoc_elim : ∀ (σ : VS) (o : VObj) (i : Nat) (k : Nat -> VS -> Prop), vsnoc σ o i k -> k (i + σ.length) (σ ++ [o]) := by
 intro σ
 induction σ with
 | nil => intro o i k h; exact h
 | cons x l ih =>
  intro o i k h
  have := ih o (i + 1) _ h
  simp only [List.length_cons, List.cons_append]
  rw [show i + (l.length + 1) = i + 1 + l.length from by omega]
  exact this
theorem forceN_eq {α : Type} (n : Nat) (k : Nat -> α) : forceN n k = k n := by cases n <;> rfl
theorem vnew_elim {σ : VS} {o : VObj} {k : Nat -> VS -> Prop} (h : vnew σ o k) : k σ.length (σ ++ [o]) := by
 have := vsnoc_elim _ _ _ _ h
 rw [forceN_eq] at this
 simpa using this
theorem vset_elim : ∀ (σ : VS) (i : Nat) (o : VObj) (k : VS -> Prop), vset σ i o k -> i < σ.length /\ k (σ.set i o) := by
 intro σ
 induction σ with
 | nil => intro i o k h; cases i <;> exact h.elim
 | cons x l ih =>
  intro i o k h
  cases i with
  | zero => exact ⟨by simp, h⟩
  | succ i =>
   obtain ⟨h1, h2⟩ := ih i o _ h
   exact ⟨by simpa using h1, h2⟩
theorem vwe {α : Type} {o : Option α} {k : α -> Prop} (h : vwith o k) : ∃ v, o = some v /\ k v := by
 cases o with
 | none => exact h.elim
 | some v => exact ⟨v, rfl, h⟩
theorem vcells_erase (ρ : Nat -> Nat) (v : V) : cellsOf (erase ρ v) = eraseL ρ (vcells v) := by
 cases v with
 | d x => cases x <;> simp [erase, eraseD, cellsOf, vcells, eraseL]
 | agg l => simp [erase, cellsOf, vcells]
 | _ => simp [erase, cellsOf, vcells, eraseL]
theorem vcells_ok {Φ : Fz} {m : Nat} {v : V} (h : VOk Φ m v) : VsOk Φ m (vcells v) := by
 cases h with
 | agg h => exact h
 | d h => intro x hx; simp [vcells] at hx; subst hx; exact .d h
 | bp h => intro x hx; simp [vcells] at hx; subst hx; exact .bp h
 | ptr h => intro x hx; simp [vcells] at hx; subst hx; exact .ptr h
 | fp h1 h2 h3 h4 h5 => intro x hx; simp [vcells] at hx; subst hx; exact .fp h1 h2 h3 h4 h5
 | ms h => intro x hx; simp [vcells] at hx; subst hx; exact .ms h
 | map h => intro x hx; simp [vcells] at hx; subst hx; exact .map h
 | fn h1 h2 => intro x hx; simp [vcells] at hx; subst hx; exact .fn h1 h2
 | yld h => intro x hx; simp [vcells] at hx; subst hx; exact .yld h
 | iface h => intro x hx; simp [vcells] at hx; subst hx; exact .iface h
 | tup h => intro x hx; simp [vcells] at hx; subst hx; exact .tup h
theorem eraseL_d (ρ : Nat -> Nat) (l : List D) : eraseL ρ (l.map V.d) = l.map eraseD := by
 induction l with
 | nil => rfl
 | cons x l ih => simp only [List.map_cons, eraseL, erase, ih]
theorem toD_erase {v : Value} {d : D} (h : toD v = some d) : eraseD d = v := by
 unfold toD at h
 split at h <;> first | (cases h; rfl) | cases h
theorem toD_ok {v : Value} {d : D} (h : toD v = some d) (Φ : Fz) : DOk Φ d := by
 unfold toD at h
 split at h <;> first | (cases h; constructor) | cases h
theorem toVs_erase (ρ : Nat -> Nat) : ∀ {l : List Value} {z : List V}, toVs l = some z -> eraseL ρ z = l := by
 intro l
 induction l with
 | nil => intro z h; cases h; rfl
 | cons v l ih =>
  intro z h
  unfold toVs at h
  split at h
  ·rename_i d r h1 h2
   cases h
   simp only [eraseL, erase]
   rw [toD_erase h1, ih h2]
  ·cases h
theorem toVs_ok (Φ : Fz) (m : Nat) : ∀ {l : List Value} {z : List V}, toVs l = some z -> VsOk Φ m z /\ ∀ v ∈ z, isCell v = true := by
 intro l
 induction l with
 | nil => intro z h; cases h; exact ⟨fun _ h => by simp at h, fun _ h => by simp at h⟩
 | cons v l ih =>
  intro z h
  unfold toVs at h
  split at h
  ·rename_i d r h1 h2
   cases h
   obtain ⟨i1, i2⟩ := ih h2
   refine ⟨fun x hx => ?_, fun x hx => ?_⟩
   ·rcases List.mem_cons.1 hx with rfl | hx
    ·exact .d (toD_ok h1 Φ)
    ·exact i1 x hx
   ·rcases List.mem_cons.1 hx with rfl | hx
    ·rfl
    ·exact i2 x hx
  ·cases h
theorem toV_erase {ρ : Nat -> Nat} {v : Value} {x : V} (h : toV v = some x) : erase ρ x = v := by
 unfold toV at h
 split at h
 ·split at h
  ·rename_i r h1; cases h; simp only [erase]; rw [toVs_erase ρ h1]
  ·cases h
 ·split at h
  ·rename_i d h1; cases h; simp only [erase]; exact toD_erase h1
  ·cases h
theorem toV_ok {v : Value} {x : V} (h : toV v = some x) (Φ : Fz) (m : Nat) : VOk Φ m x := by
 unfold toV at h
 split at h
 ·split at h
  ·rename_i r h1; cases h; exact .agg (toVs_ok Φ m h1).1
  ·cases h
 ·split at h
  ·rename_i d h1; cases h; exact .d (toD_ok h1 Φ)
  ·cases h
theorem toD_flat {v : Value} {d : D} (h : toD v = some d) : flat v = true := by
 unfold toD at h
 split at h <;> first | rfl | cases h
theorem toVs_flat : ∀ {l : List Value} {z : List V}, toVs l = some z -> l.all flat = true := by
 intro l
 induction l with
 | nil => intro z h; rfl
 | cons v l ih =>
  intro z h
  unfold toVs at h
  split at h
  ·rename_i d r h1 h2
   simp only [List.all_cons, toD_flat h1, ih h2, Bool.and_self]
  ·cases h
theorem toV_const {v : Value} {x : V} (h : toV v = some x) : constFlat v = true := by
 unfold toV at h
 split at h
 ·split at h
  ·rename_i r h1; exact toVs_flat h1
  ·cases h
 ·rename_i v hv
  split at h
  ·rename_i d h1
   have := toD_flat h1
   unfold constFlat
   split
   ·rename_i l; exact absurd rfl (hv l)
   ·exact this
  ·cases h
def EvRel (Φ : Fz) (ρ : Nat -> Nat) (m : Nat) (ev : Operand -> Option V) (ev' : Operand -> Option Value) : Prop :=
 ∀ x v, ev x = some v -> ev' x = some (erase ρ v) /\ VOk Φ m v
theorem vev_rel {Φ : Fz} {ρ : Nat -> Nat} {m : Nat} {l : List (Nat × V)} {fr : Fr} (h : TmRel Φ ρ m l fr.tm) : EvRel Φ ρ m (vev l) (evOp fr) := by
 intro x v hx
 cases x with
 | tmp t => exact h t v hx
 | const c =>
  have hx : toV c = some v := hx
  refine ⟨?_, toV_ok hx Φ m⟩
  simp only [evOp, toV_const hx]
  rw [toV_erase hx]
 | global g => cases hx
 | func f =>
  cases hx
  exact ⟨by simp [evOp, erase, eraseL], .fn (fun _ h => by simp at h) (fun _ h => by simp at h)⟩
section
variable {C : Ctx} {Φ : Fz} {ρ : Nat -> Nat} {σ : VS} {st : St} {m : Nat} {ev : Operand -> Option V} {ev' : Operand -> Option Value}
theorem vlist_rel (he : EvRel Φ ρ m ev ev') : ∀ {l : List Operand} {r : List V}, vlist ev l = some r -> evList ev' l = some (eraseL ρ r) /\ VsOk Φ m r := by
 intro l
 induction l with
 | nil => intro r h; cases h; exact ⟨rfl, fun _ h => by simp at h⟩
 | cons x l ih =>
  intro r h
  unfold vlist at h
  split at h
  ·rename_i v t h1 h2
   cases h
   obtain ⟨a, b⟩ := he _ _ h1
   obtain ⟨c, d⟩ := ih h2
   refine ⟨by simp only [evList, a, c, eraseL], fun y hy => ?_⟩
   rcases List.mem_cons.1 hy with rfl | hy
   ·exact b
   ·exact d y hy
  ·cases h
theorem vparts_rel (he : EvRel Φ ρ m ev ev') : ∀ {l : List (Nat × Operand)} {r : List (Nat × V)}, vparts ev l = some r -> evParts ev' l = some (r.map fun x => (x.1, erase ρ x.2)) /\ ∀ x ∈ r, VOk Φ m x.2 := by
 intro l
 induction l with
 | nil => intro r h; cases h; exact ⟨rfl, fun _ h => by simp at h⟩
 | cons x l ih =>
  intro r h
  obtain ⟨i, x⟩ := x
  unfold vparts at h
  split at h
  ·rename_i v t h1 h2
   cases h
   obtain ⟨a, b⟩ := he _ _ h1
   obtain ⟨c, d⟩ := ih h2
   refine ⟨by simp only [evParts, a, c, List.map_cons], fun y hy => ?_⟩
   rcases List.mem_cons.1 hy with rfl | hy
   ·exact b
   ·exact d y hy
  ·cases h
theorem flat_at {α : Type} : ∀ {els : List (List α)} {es kk f n : Nat} {e : List α}, (∀ x ∈ els, x.length = es) -> els[kk]? = some e -> f + n <= es ->
  (els.flatten.drop (kk * es + f)).take n = (e.drop f).take n /\ kk * es + f + n <= els.flatten.length := by
 intro els
 induction els with
 | nil => intro es kk f n e _ h; simp at h
 | cons x els ih =>
  intro es kk f n e hl h hn
  have hx := hl x (by simp)
  cases kk with
  | zero =>
   simp at h
   subst h
   simp only [Nat.zero_mul, Nat.zero_add, List.flatten_cons, List.length_append]
   refine ⟨?_, by omega⟩
   rw [List.drop_append_of_le_length (by omega), List.take_append_of_le_length (by rw [List.length_drop]; omega)]
  | succ kk =>
   have := ih (fun y hy => hl y (by simp [hy])) (kk := kk) (f := f) (n := n) (e := e) (by simpa using h) hn
   simp only [List.flatten_cons, List.length_append]
   rw [Nat.succ_mul]
   refine ⟨?_, by omega⟩
   rw [<- this.1, show kk * es + es + f = x.length + (kk * es + f) from by omega, List.drop_length_add_append]
theorem flat_len {α : Type} {els : List (List α)} {es : Nat} (h : ∀ x ∈ els, x.length = es) : els.flatten.length = els.length * es := by
 induction els with
 | nil => simp
 | cons x els ih =>
  rw [List.flatten_cons, List.length_append, h x (by simp), ih fun y hy => h y (by simp [hy]), List.length_cons, Nat.succ_mul]
  omega
theorem vmk_elim {agg : Bool} {c : List V} {k : V -> Prop} (h : vmk agg c k) (ρ : Nat -> Nat) (hc : VsOk Φ m c) : ∃ v, k v /\ VOk Φ m v /\ mkV agg (eraseL ρ c) = some (erase ρ v) := by
 cases agg with
 | true => exact ⟨_, h, .agg hc, by simp [mkV, erase, List.toArray]⟩
 | false =>
  unfold vmk at h
  dsimp only at h
  split at h
  ·rename_i v
   exact ⟨v, h, hc v (by simp), by simp [mkV, eraseL]⟩
  ·exact h.elim
theorem sub_ok {e : List V} (h : VsOk Φ m e) (f n : Nat) : VsOk Φ m ((e.drop f).take n) := fun v hv => h v (List.mem_of_mem_drop (List.mem_of_mem_take hv))
theorem eraseL_sub (ρ : Nat -> Nat) (e : List V) (f n : Nat) : eraseL ρ ((e.drop f).take n) = ((eraseL ρ e).drop f).take n := by
 simp [eraseL_eq, List.map_take, List.map_drop]
theorem readCells_of {b o n : Nat} {c : List Value} {es f p : Nat} (hg : st.get b = some (.cells c es f p)) (h : o + n <= c.length) : readCells st b o n = some ((c.drop o).take n) := by
 unfold readCells
 rw [hg]
 simp only [Nat.ble_eq_true_of_le h]
theorem vload_sound (h : Real Φ ρ σ st) {a : V} (ha : VOk Φ σ.length a) {n : Nat} {agg : Bool} {k : V -> Prop} (hk : vload n agg a σ k) :
  ∃ v b o c, k v /\ VOk Φ σ.length v /\ erase ρ a = .pointer (some ⟨b, o, none⟩) /\ readCells st b o n = some c /\ mkV agg c = some (erase ρ v) := by
 unfold vload at hk
 split at hk
 ·rename_i i f
  split at hk
  ·rename_i cs hcs
   rw [nth_eq] at hcs
   obtain ⟨⟨⟨h1, _⟩, h2, _⟩, _⟩ := h.obj i _ hcs rfl
   obtain ⟨h3, h4⟩ := vcut_elim _ _ _ _ hk
   obtain ⟨v, h5, h6, h7⟩ := vmk_elim h4 ρ (sub_ok h2 f n)
   exact ⟨v, _, _, _, h5, h6, rfl, readCells_of h1 (by rw [eraseL_length]; exact h3), by rw [<- eraseL_sub]; exact h7⟩
  ·exact hk.elim
 ·rename_i i es kk f
  split at hk
  ·rename_i es' els hcs
   rw [nth_eq] at hcs
   split at hk
   ·rename_i hes
    have := Nat.eq_of_beq_eq_true hes
    subst this
    obtain ⟨⟨⟨g, p, h1⟩, h2, h3, _⟩, _⟩ := h.obj i _ hcs rfl
    obtain ⟨e, h4, h5⟩ := hk
    rw [nth_eq] at h4
    obtain ⟨h6, h7⟩ := vcut_elim _ _ _ _ h5
    have hm : e ∈ els := List.mem_of_getElem? h4
    obtain ⟨v, h8, h9, h10⟩ := vmk_elim h7 ρ (sub_ok (h3 e hm) f n)
    have hf := flat_at h2 h4 (f := f) (n := n) (by rw [<- h2 e hm]; exact h6)
    refine ⟨v, _, _, _, h8, h9, rfl, readCells_of h1 (by rw [eraseL_length]; exact hf.2), ?_⟩
    rw [<- eraseL_sub, hf.1]; exact h10
   ·exact hk.elim
  ·exact hk.elim
 ·rename_i b off cs
  cases ha with
  | fp h1 h2 h3 h4 h0 =>
   rename_i c e f p
   obtain ⟨h5, h6⟩ := vtakeD_elim _ _ _ hk
   obtain ⟨v, h7, h8, h9⟩ := vmk_elim (Φ := Φ) (m := σ.length) h6 ρ (fun v hv => by
    obtain ⟨d, hd, rfl⟩ := List.mem_map.1 hv
    exact .d (h4 d (List.mem_of_mem_take hd)))
   refine ⟨v, _, _, _, h7, h8, rfl, readCells_of (h.fz _ _ h1) (by omega), ?_⟩
   rw [<- h9]
   have : (c.drop off).take n = ((c.drop off).take cs.length).take n := by rw [List.take_take, Nat.min_eq_left h5]
   rw [this, h3, eraseL_d, List.map_take]
 ·exact hk.elim
theorem vLoad_sound (h : Real Φ ρ σ st) {t : TypeId} {a : V} (ha : VOk Φ σ.length a) {k : V -> Prop} (hk : vLoad C t a σ k) :
  ∃ v, k v /\ VOk Φ σ.length v /\ aLoad C t (erase ρ a) st = some (.val (erase ρ v) st) := by
 unfold vLoad at hk
 split at hk
 ·rename_i ti hti
  split at hk
  ·rename_i hb
   obtain ⟨v, b, o, c, h1, h2, h3, h4, h5⟩ := vload_sound h ha hk
   refine ⟨v, h1, h2, ?_⟩
   unfold aLoad
   rw [hti, h3]
   simp only [hb, h4, h5]
   rfl
  ·exact hk.elim
 ·exact hk.elim
theorem vfill_elim (ρ : Nat -> Nat) (place : Nat -> Option (Nat × Nat)) : ∀ (ps : List (Nat × V)) (cells : List V) (k : List V -> Prop), VsOk Φ m cells -> (∀ x ∈ ps, VOk Φ m x.2) -> vfill place cells ps k ->
  ∃ c, k c /\ VsOk Φ m c /\ afill place (eraseL ρ cells) (ps.map fun x => (x.1, erase ρ x.2)) = some (eraseL ρ c) := by
 intro ps
 induction ps with
 | nil => intro cells k hc _ h; exact ⟨cells, h, hc, rfl⟩
 | cons x ps ih =>
  intro cells k hc hp h
  obtain ⟨i, v⟩ := x
  unfold vfill at h
  split at h
  ·exact h.elim
  ·rename_i off size hpl
   split at h
   ·rename_i hs
    obtain ⟨h1, h2⟩ := vlset_elim _ _ _ _ h
    have hv := vcells_ok (hp _ (List.mem_cons_self ..))
    have hc' : VsOk Φ m (lay cells off (vcells v)) := fun y hy => (lay_mem hy).elim (hc y) (hv y)
    obtain ⟨c, h3, h4, h5⟩ := ih _ _ hc' (fun y hy => hp y (by simp [hy])) h2
    refine ⟨c, h3, h4, ?_⟩
    have hsz := Nat.eq_of_beq_eq_true hs
    simp only [List.map_cons, afill, hpl, vcells_erase, eraseL_length]
    rw [hsz, Nat.beq_refl, Nat.ble_eq_true_of_le (by rw [<- hsz]; exact h1)]
    simp only [Bool.and_self]
    rw [listSet_lay _ _ _ (by rw [eraseL_length, eraseL_length]; exact h1), eraseL_eq, eraseL_eq, <- lay_map, <- eraseL_eq]
    exact h5
   ·exact h.elim
theorem vBuild_sound {t : TypeId} {ps : List (Nat × V)} (hp : ∀ x ∈ ps, VOk Φ m x.2) {k : V -> Prop} (hk : vBuild C t ps k) (ρ : Nat -> Nat) (st : St) :
  ∃ v, k v /\ VOk Φ m v /\ aBuild C t (ps.map fun x => (x.1, erase ρ x.2)) st = some (.val (erase ρ v) st) := by
 unfold vBuild at hk
 split at hk
 ·rename_i ti hti
  split at hk
  ·rename_i fields hd
   split at hk
   ·rename_i z h1 h2 h3
    obtain ⟨c, h4, h5, h6⟩ := vfill_elim ρ _ ps z _ (toVs_ok Φ m h3).1 hp hk
    rw [toVs_erase ρ h3] at h6
    refine ⟨_, h4, .agg h5, ?_⟩
    unfold aBuild
    simp only [hti, hd, h1, h2, h6]
    simp [val, erase, List.toArray]
   ·exact hk.elim
  ·rename_i n elem hd
   split at hk
   ·rename_i te z h1 h2 h3
    obtain ⟨c, h4, h5, h6⟩ := vfill_elim ρ _ ps z _ (toVs_ok Φ m h3).1 hp hk
    rw [toVs_erase ρ h3] at h6
    refine ⟨_, h4, .agg h5, ?_⟩
    unfold aBuild
    simp only [hti, hd, h1, h2, h6]
    simp [val, erase, List.toArray]
   ·exact hk.elim
  ·exact hk.elim
 ·exact hk.elim
theorem vNilCheck_sound {x : V} (hx : VOk Φ m x) {k : V -> Prop} (hk : vNilCheck x k) (ρ : Nat -> Nat) (st : St) :
  ∃ v, k v /\ VOk Φ m v /\ aNilCheck (erase ρ x) st = some (.val (erase ρ v) st) := by
 unfold vNilCheck at hk
 split at hk <;> first | exact hk.elim | exact ⟨_, hk, hx, by simp [erase, aNilCheck, val]⟩
end
end Go.VM
