/- A deterministic evaluator of the model's code over an abstract heap, and the relation of that heap to the model's world. -/
import Derived.Calls
import Derived.Below
namespace Go.AM
inductive Tr (α : Type) where
 | nil
 | node (v : Option α) (l r : Tr α)
def pathF : Nat -> Nat -> List Bool
 | 0, _ => []
 | k + 1, n => match n with
  | 0 => []
  | m + 1 => (Nat.beq (m % 2) 0) :: pathF k (m / 2)
def path (n : Nat) : List Bool := pathF n n
def Tr.getP {α : Type} : List Bool -> Tr α -> Option α
 | _, .nil => none
 | [], .node v _ _ => v
 | b :: p, .node _ l r => match b with
  | true => Tr.getP p l
  | false => Tr.getP p r
def Tr.putP {α : Type} (o : Option α) : List Bool -> Tr α -> Tr α
 | [], .nil => .node o .nil .nil
 | [], .node _ l r => .node o l r
 | b :: p, .nil => match b with
  | true => .node none (Tr.putP o p .nil) .nil
  | false => .node none .nil (Tr.putP o p .nil)
 | b :: p, .node v l r => match b with
  | true => .node v (Tr.putP o p l) r
  | false => .node v l (Tr.putP o p r)
def Tr.get {α : Type} (t : Tr α) (n : Nat) : Option α := Tr.getP (path n) t
def Tr.put {α : Type} (t : Tr α) (n : Nat) (o : Option α) : Tr α := Tr.putP o (path n) t
def Tr.set {α : Type} (t : Tr α) (n : Nat) (v : α) : Tr α := t.put n (some v)
def Tr.ofListFrom {α : Type} : Nat -> List α -> Tr α -> Tr α
 | _, [], t => t
 | i, v :: l, t => Tr.ofListFrom (i + 1) l (t.set i v)
structure ALoop where
 state : LoopState
 pending : Option Code
 fn : FuncId
 tm : Tr Value
 nt : Nat
 params : List Tmp
 assign : Code
 body : Code
 defers : Nat
inductive AObj where
 | cells (c : List Value) (es fam fo : Nat)
 | map (entries : List MapEntry) (clock : Nat)
 | loop (l : ALoop)
 | defl (taken : Bool)
 | iter (s : ByteArray) (pos : Nat)
 | dead
structure St where
 hp : Tr AObj
 n : Nat
 fm : Tr (List Nat)
structure Fr where
 tm : Tr Value
 df : List Deferred
structure FC where
 fn : FuncId
 nt : Nat
 round : Option Nat
 dfd : Bool
inductive PanS where
 | none
 | pend (v : Value)
 | recd
inductive Ex where
 | norm
 | exit (id : Nat)
 | ret
 | panic (v : Value)
inductive CR where
 | ret (v : Value)
 | pan (v : Value)
inductive AR where
 | val (v : Value) (st : St)
 | pan (v : Value) (st : St)
 | enter (f : FuncId) (args : List Value)
 | yield (l : Nat) (args : List Value)
 | recover
 | defer (d : Deferred)
structure TI where
 desc : TypeDesc
 size : Nat
 agg : Bool
 zero : List Value
 bytes : Nat
structure FI where
 nt : Nat
 body : Code
 res : List ResultVar
structure Ctx where
 P : Program
 tt : Tr TI
 ff : Tr FI
 ext : FuncId -> List Value -> Option Value
def PanS.isNone : PanS -> Bool | .none => true | _ => false
def St.new (st : St) (o : AObj) : St := { st with hp := st.hp.set st.n o, n := st.n + 1 }
def St.put (st : St) (b : Nat) (o : AObj) : St := { st with hp := st.hp.set b o }
def St.get (st : St) (b : Nat) : Option AObj := st.hp.get b
def overlaps (fo k lo hi : Nat) : Bool := Nat.blt fo hi && Nat.blt lo (fo + k)
def killIn (b lo hi : Nat) : List Nat -> Tr AObj -> Tr AObj × List Nat
 | [], hp => (hp, [])
 | m :: ms, hp =>
  match Nat.beq m b with
  | true => let r := killIn b lo hi ms hp; (r.1, m :: r.2)
  | false =>
   match hp.get m with
   | some (.cells c _ _ fo) =>
    match overlaps fo c.length lo hi with
    | true => killIn b lo hi ms (hp.set m .dead)
    | false => let r := killIn b lo hi ms hp; (r.1, m :: r.2)
   | _ => let r := killIn b lo hi ms hp; (r.1, m :: r.2)
def St.kill (st : St) (fam b lo hi : Nat) : St :=
 match st.fm.get fam with
 | none => st
 | some ms => let r := killIn b lo hi ms st.hp; { st with hp := r.1, fm := st.fm.set fam r.2 }
def listSet : List Value -> Nat -> List Value -> List Value
 | c, _, [] => c
 | [], _, _ :: _ => []
 | x :: c, n, v :: vs => match n with
  | 0 => v :: listSet c 0 vs
  | m + 1 => x :: listSet c m (v :: vs)
def readCells (st : St) (b o n : Nat) : Option (List Value) :=
 match st.get b with
 | some (.cells c _ _ _) => match Nat.ble (o + n) c.length with
  | true => some ((c.drop o).take n)
  | false => none
 | _ => none
def cellVal : Value -> Bool
 | .agg _ | .tuple _ => false
 | _ => true
def writeCells (st : St) (b o : Nat) (vs : List Value) : Option St :=
 match st.get b with
 | some (.cells c es fam fo) => match Nat.ble (o + vs.length) c.length && vs.all cellVal with
  | true => some ((st.put b (.cells (listSet c o vs) es fam fo)).kill fam b (fo + o) (fo + o + vs.length))
  | false => none
 | _ => none
def newRow (st : St) (es : Nat) (c : List Value) : Nat × St := (st.n, st.new (.cells c es st.n 0))
def mkV (agg : Bool) (c : List Value) : Option Value :=
 match agg with
 | true => some (.agg c.toArray)
 | false => match c with
  | [v] => some v
  | _ => none
def cellsOf : Value -> List Value
 | .agg cs => cs.toList
 | v => [v]
def bytesEq : List UInt8 -> List UInt8 -> Bool
 | [], [] => true
 | a :: x, b :: y => match Nat.beq a.toNat b.toNat with
  | true => bytesEq x y
  | false => false
 | _, _ => false
def bytesLt : List UInt8 -> List UInt8 -> Bool
 | _, [] => false
 | [], _ :: _ => true
 | a :: x, b :: y => match Nat.blt a.toNat b.toNat with
  | true => true
  | false => match Nat.beq a.toNat b.toNat with
   | true => bytesLt x y
   | false => false
def strEq (a b : ByteArray) : Bool := bytesEq a.data.toList b.data.toList
def strLt (a b : ByteArray) : Bool := bytesLt a.data.toList b.data.toList
def strCat (a b : ByteArray) : ByteArray := ⟨⟨a.data.toList ++ b.data.toList⟩⟩
def strSub (s : ByteArray) (l h : Nat) : ByteArray := ⟨⟨(s.data.toList.take h).drop l⟩⟩
def intEq : Int -> Int -> Bool
 | .ofNat a, .ofNat b => Nat.beq a b
 | .negSucc a, .negSucc b => Nat.beq a b
 | _, _ => false
def kindEq : IntKind -> IntKind -> Bool
 | .i8, .i8 | .i16, .i16 | .i32, .i32 | .i64, .i64 | .u8, .u8 | .u16, .u16 | .u32, .u32 | .u64, .u64 => true
 | _, _ => false
def addrEq (a b : Addr) : Bool := Nat.beq a.block b.block && Nat.beq a.off b.off && (match a.spot, b.spot with | none, none => true | _, _ => false)
def fnEq : Fn -> Fn -> Bool
 | .func f, .func g => Nat.beq f g
 | .yield f, .yield g => Nat.beq f g
 | _, _ => false
mutual
def veq : Value -> Value -> Bool
 | .bool a, .bool b => a == b
 | .int k a, .int k' b => kindEq k k' && intEq a b
 | .string a, .string b => strEq a b
 | .pointer none, .pointer none => true
 | .pointer (some a), .pointer (some b) => addrEq a b
 | .slice none l c, .slice none l' c' => Nat.beq l l' && Nat.beq c c'
 | .slice (some a) l c, .slice (some b) l' c' => addrEq a b && Nat.beq l l' && Nat.beq c c'
 | .map none, .map none => true
 | .map (some a), .map (some b) => Nat.beq a b
 | .func f ⟨a⟩ ⟨b⟩, .func f' ⟨a'⟩ ⟨b'⟩ => fnEq f f' && veqL a a' && veqL b b'
 | .nilFunc, .nilFunc => true
 | .nilIface, .nilIface => true
 | .iface t v, .iface t' v' => Nat.beq t t' && veq v v'
 | .agg ⟨a⟩, .agg ⟨b⟩ => veqL a b
 | .tuple ⟨a⟩, .tuple ⟨b⟩ => veqL a b
 | _, _ => false
def veqL : List Value -> List Value -> Bool
 | [], [] => true
 | a :: x, b :: y => veq a b && veqL x y
 | _, _ => false
end
def nth {α : Type} : List α -> Nat -> Option α
 | [], _ => none
 | x :: l, n => match n with
  | 0 => some x
  | m + 1 => nth l m
def intLt : Int -> Int -> Bool
 | .ofNat a, .ofNat b => Nat.blt a b
 | .negSucc a, .negSucc b => Nat.blt b a
 | .negSucc _, .ofNat _ => true
 | .ofNat _, .negSucc _ => false
def repl (z : List Value) : Nat -> List Value
 | 0 => []
 | n + 1 => z ++ repl z n
def afill (place : Nat -> Option (Nat × Nat)) : List Value -> List (Nat × Value) -> Option (List Value)
 | cells, [] => some cells
 | cells, (i, v) :: rest =>
  match place i with
  | none => none
  | some (off, size) =>
   match Nat.beq (cellsOf v).length size && Nat.ble (off + size) cells.length with
   | true => afill place (listSet cells off (cellsOf v)) rest
   | false => none
def evParts (ev : Operand -> Option Value) : List (Nat × Operand) -> Option (List (Nat × Value))
 | [] => some []
 | (i, x) :: r => match ev x, evParts ev r with
  | some v, some l => some ((i, v) :: l)
  | _, _ => none
def evList (ev : Operand -> Option Value) : List Operand -> Option (List Value)
 | [] => some []
 | x :: r => match ev x, evList ev r with
  | some v, some l => some (v :: l)
  | _, _ => none
def val (v : Value) (st : St) : Option AR := some (.val v st)
def ptr (b o : Nat) : Value := .pointer (some ⟨b, o, none⟩)
def undefV : Value := .tuple #[]
def aAlloc (C : Ctx) (t : TypeId) (st : St) : Option AR :=
 match C.tt.get t with
 | some ti => val (ptr st.n 0) (st.new (.cells ti.zero ti.size st.n 0))
 | none => none
def aBox (v : Value) (st : St) : Option AR :=
 match (cellsOf v).all cellVal with
 | true => val (ptr st.n 0) (st.new (.cells (cellsOf v) (cellsOf v).length st.n 0))
 | false => none
def fieldPlace' (C : Ctx) (fields : Array Field) (i : Nat) : Option (Nat × Nat) :=
 match nth fields.toList i with
 | some f => match C.tt.get f.type with
  | some ti => some (f.offset, ti.size)
  | none => none
 | none => none
def aBuild (C : Ctx) (t : TypeId) (ps : List (Nat × Value)) (st : St) : Option AR :=
 match C.tt.get t with
 | some ti =>
  match ti.desc with
  | .struct fields =>
   match (fields.toList.all fun f => (C.tt.get f.type).isSome), ti.agg, afill (fieldPlace' C fields) ti.zero ps with
   | true, true, some c => val (.agg c.toArray) st
   | _, _, _ => none
  | .array _ elem =>
   match C.tt.get elem, ti.agg with
   | some te, true => match afill (fun i => some (i * te.size, te.size)) ti.zero ps with
    | some c => val (.agg c.toArray) st
    | none => none
   | _, _ => none
  | _ => none
 | none => none
def aBuildSlice (C : Ctx) (t : TypeId) (len : Nat) (ps : List (Nat × Value)) (st : St) : Option AR :=
 match C.tt.get t with
 | some ti =>
  match ti.desc with
  | .slice elem =>
   match C.tt.get elem with
   | some te =>
    match Nat.blt 0 te.size && Nat.ble (len * te.size) 16777216 && Nat.beq te.zero.length te.size, afill (fun i => some (i * te.size, te.size)) (repl te.zero len) ps with
    | true, some c => match c.all cellVal with
     | true => val (.slice (some ⟨st.n, 0, none⟩) len len) (st.new (.cells c te.size st.n 0))
     | false => none
    | _, _ => none
   | none => none
  | _ => none
 | none => none
def aLoad (C : Ctx) (t : TypeId) (a : Value) (st : St) : Option AR :=
 match C.tt.get t, a with
 | some ti, .pointer (some ⟨b, o, none⟩) =>
  match ti.agg || Nat.beq ti.size 1, readCells st b o ti.size with
  | true, some c => match mkV ti.agg c with
   | some v => val v st
   | none => none
  | _, _ => none
 | _, _ => none
def aStore (C : Ctx) (t : TypeId) (a x : Value) (st : St) : Option AR :=
 match C.tt.get t, a with
 | some ti, .pointer (some ⟨b, o, none⟩) =>
  match Nat.beq (cellsOf x).length ti.size with
  | true => match writeCells st b o (cellsOf x) with
   | some st' => val undefV st'
   | none => none
  | false => none
 | _, _ => none
def aNilCheck (x : Value) (st : St) : Option AR :=
 match x with
 | .pointer (some _) => val x st
 | .iface _ _ => val x st
 | .func (.func _) _ _ => val x st
 | .func (.yield _) _ _ => val x st
 | _ => none
def basicEq : TypeDesc -> Value -> Value -> Option Bool
 | .bool, .bool a, .bool b => some (a == b)
 | .int _, .int k a, .int k' b => match kindEq k k' with
  | true => some (intEq a b)
  | false => none
 | .string, .string a, .string b => some (strEq a b)
 | _, _, _ => none
def fieldsEq (C : Ctx) (xs ys : List Value) : List Field -> Option Bool
 | [] => some true
 | f :: r => match f.name == "_" with
  | true => none
  | false => match C.tt.get f.type, nth xs f.offset, nth ys f.offset with
   | some ti, some a, some b => match ti.agg with
    | true => none
    | false => match basicEq ti.desc a b with
     | some true => fieldsEq C xs ys r
     | some false => some false
     | none => none
   | _, _, _ => none
def isConstOp : Operand -> Bool
 | .const _ => true
 | _ => false
def aEq (C : Ctx) (t : TypeId) (x y : Operand) (a b : Value) : Option Bool :=
 match C.tt.get t with
 | none => none
 | some ti =>
  match ti.desc, a, b with
  | .pointer _, .pointer none, .pointer q => some q.isNone
  | .pointer _, .pointer _, .pointer none => some false
  | .pointer e, .pointer (some p), .pointer (some q) =>
   match C.tt.get e, p, q with
   | some te, ⟨pb, po, none⟩, ⟨qb, qo, none⟩ => match Nat.blt 0 te.size && Nat.beq pb qb with
    | true => some (Nat.beq po qo)
    | false => none
   | _, _, _ => none
  | .interface _, .nilIface, .nilIface => match isConstOp x || isConstOp y with
   | true => some true
   | false => none
  | .interface _, .nilIface, .iface _ _ => some false
  | .interface _, .iface _ _, .nilIface => some false
  | .struct fields, .agg xs, .agg ys => match ti.bytes with
   | _ => match C.P.eqGuardType C.P.depth t || C.P.stoodInHeld t with
    | true => none
    | false => fieldsEq C xs.toList ys.toList fields.toList
  | .slice _, .slice none _ _, .slice q _ _ => some q.isNone
  | .slice _, .slice _ _ _, .slice none _ _ => some false
  | .map _ _, .map none, .map q => some q.isNone
  | .map _ _, .map _, .map none => some false
  | .func _ _ _, .nilFunc, .nilFunc => some true
  | .func _ _ _, .nilFunc, .func _ _ _ => some false
  | .func _ _ _, .func _ _ _, .nilFunc => some false
  | d, a, b => basicEq d a b
def intBin (op : BinOp) (k : IntKind) (a b : Int) : Option Value :=
 match op with
 | .add => some (.int k (k.wrap (a + b)))
 | .sub => some (.int k (k.wrap (a - b)))
 | .mul => some (.int k (k.wrap (a * b)))
 | .quo => match intEq b 0 with | true => none | false => some (.int k (k.wrap (a.tdiv b)))
 | .rem => match intEq b 0 with | true => none | false => some (.int k (a.tmod b))
 | .and => some (.int k (k.wrap (BitVec.ofInt k.bits a &&& BitVec.ofInt k.bits b).toNat))
 | .or => some (.int k (k.wrap (BitVec.ofInt k.bits a ||| BitVec.ofInt k.bits b).toNat))
 | .xor => some (.int k (k.wrap (BitVec.ofInt k.bits a ^^^ BitVec.ofInt k.bits b).toNat))
 | .andNot => some (.int k (k.wrap (BitVec.ofInt k.bits a &&& ~~~ BitVec.ofInt k.bits b).toNat))
 | .eql => some (.bool (intEq a b))
 | .neq => some (.bool (!(intEq a b)))
 | .lss => some (.bool (intLt a b))
 | .leq => some (.bool (!(intLt b a)))
 | .gtr => some (.bool (intLt b a))
 | .geq => some (.bool (!(intLt a b)))
 | _ => none
def shiftBin (op : BinOp) (k : IntKind) (a : Int) (b : Int) : Option Value :=
 match b with
 | .ofNat n => match op with
  | .shl => some (.int k (k.wrap (a * 2 ^ (min n k.bits))))
  | .shr => some (.int k (a.fdiv (2 ^ (min n k.bits))))
  | _ => none
 | _ => none
def isShift : BinOp -> Bool
 | .shl => true
 | .shr => true
 | _ => false
def strBin (op : BinOp) (a b : ByteArray) : Option Value :=
 match op with
 | .add => match Nat.ble (a.data.toList.length + b.data.toList.length) 1099511627776 with
  | true => some (.string (strCat a b))
  | false => none
 | .eql => some (.bool (strEq a b))
 | .neq => some (.bool (!(strEq a b)))
 | .lss => some (.bool (strLt a b))
 | .leq => some (.bool (strLt a b || strEq a b))
 | .gtr => some (.bool (!(strLt a b || strEq a b)))
 | .geq => some (.bool (!(strLt a b)))
 | _ => none
def aBin (C : Ctx) (op : BinOp) (t : TypeId) (x y : Operand) (a b : Value) : Option Value :=
 match a, b with
 | .int k m, .int k' n => match isShift op with
  | true => shiftBin op k m n
  | false => match kindEq k k' with
   | true => intBin op k m n
   | false => none
 | .string m, .string n => strBin op m n
 | a, b => match op with
  | .eql => (aEq C t x y a b).map .bool
  | .neq => (aEq C t x y a b).map fun r => .bool (!r)
  | _ => none
def aUn (op : UnOp) (x : Value) : Option Value :=
 match op, x with
 | .neg, .int k n => some (.int k (k.wrap (0 - n)))
 | .xor, .int k n => some (.int k (k.wrap (BitVec.ofInt k.bits (if k.signed then -1 else k.max) ^^^ BitVec.ofInt k.bits n).toNat))
 | .not, .bool b => some (.bool (!b))
 | _, _ => none
def toByte : Value -> Option UInt8
 | .int .u8 (.ofNat n) => some (UInt8.ofNat n)
 | _ => none
def toBytes : List Value -> Option (List UInt8)
 | [] => some []
 | v :: r => match toByte v, toBytes r with
  | some b, some l => some (b :: l)
  | _, _ => none
def ofBytes (l : List UInt8) : List Value := l.map fun b => .int .u8 b.toNat
def aConvert (C : Ctx) (src dst : TypeId) (x : Value) (st : St) : Option AR :=
 match C.tt.get src, C.tt.get dst with
 | some ts, some td =>
  match ts.desc, td.desc, x with
  | .int _, .int k, .int _ n => val (.int k (k.wrap n)) st
  | .string, .string, .string _ => val x st
  | .string, .slice e, .string s =>
   match C.tt.get e with
   | some te => match te.desc with
    | .int .u8 => val (.slice (some ⟨st.n, 0, none⟩) s.data.toList.length s.data.toList.length) (st.new (.cells (ofBytes s.data.toList) 1 st.n 0))
    | _ => none
   | none => none
  | .slice e, .string, .slice a len _ =>
   match C.tt.get e with
   | some te => match te.desc with
    | .int .u8 => match a with
     | none => val (.string ⟨#[]⟩) st
     | some ⟨b, o, none⟩ => match readCells st b o len with
      | some c => match toBytes c with
       | some l => val (.string ⟨l.toArray⟩) st
       | none => none
      | none => none
     | _ => none
    | _ => none
   | none => none
  | _, _, _ => none
 | _, _ => none
def aMakeInterface (C : Ctx) (t : TypeId) (x : Value) (st : St) : Option AR :=
 match C.tt.get t with
 | some ti => match ti.desc with
  | .interface _ => none
  | _ => val (.iface t x) st
 | none => none
def fnOk : Fn -> Bool
 | .func _ => true
 | _ => false
def aMakeSlice (C : Ctx) (t : TypeId) (l c : Value) (st : St) : Option AR :=
 match C.tt.get t, l, c with
 | some ti, .int .i64 (.ofNat l), .int .i64 (.ofNat c) =>
  match ti.desc with
  | .slice elem => match C.tt.get elem with
   | some te => match Nat.ble l c && Nat.blt 0 te.size && Nat.ble (c * te.bytes) 1099511627776 && Nat.ble c 1099511627776 && Nat.beq te.zero.length te.size with
    | true => val (.slice (some ⟨st.n, 0, none⟩) l c) (st.new (.cells (repl te.zero c) te.size st.n 0))
    | false => none
   | none => none
  | _ => none
 | _, _, _ => none
def optNat : Option Value -> Nat -> Option Nat
 | none, d => some d
 | some (.int _ (.ofNat n)), _ => some n
 | _, _ => none
def esOf (st : St) (b : Nat) : Option Nat :=
 match st.get b with
 | some (.cells _ es _ _) => some es
 | _ => none
def aSlice (C : Ctx) (t : TypeId) (x : Value) (lo hi mx : Option Value) (st : St) : Option AR :=
 match C.tt.get t with
 | none => none
 | some ti =>
  match ti.desc, x with
  | .string, .string s =>
   match optNat lo 0, optNat hi s.data.toList.length, mx with
   | some l, some h, none => match Nat.ble l h && Nat.ble h s.data.toList.length with
    | true => val (.string (strSub s l h)) st
    | false => none
   | _, _, _ => none
  | .slice elem, .slice a len cap =>
   match C.tt.get elem, optNat lo 0, optNat hi len, optNat mx cap with
   | some te, some l, some h, some m =>
    match Nat.ble l h && Nat.ble h m && Nat.ble m cap && (hi.isSome || mx.isNone) with
    | false => none
    | true =>
     match a with
     | none => match Nat.beq cap 0 with
      | true => val (.slice none 0 0) st
      | false => none
     | some ⟨b, o, none⟩ =>
      match Nat.beq cap 0 with
      | true => val (.slice a 0 0) st
      | false => match esOf st b with
       | some es => match Nat.beq es te.size with
        | true => val (.slice (some ⟨b, o + l * te.size, none⟩) (h - l) (m - l)) st
        | false => none
       | none => none
     | _ => none
   | _, _, _, _ => none
  | .array n elem, .pointer (some ⟨b, o, none⟩) =>
   match C.tt.get elem, optNat lo 0, optNat hi n, mx with
   | some te, some l, some h, none => match Nat.ble l h && Nat.ble h n && (match st.get b with | some (.cells c es _ _) => Nat.beq es te.size && Nat.ble (o + n * te.size) c.length | _ => false) with
    | true => val (.slice (some ⟨b, o + l * te.size, none⟩) (h - l) (n - l)) st
    | false => none
   | _, _, _, _ => none
  | _, _ => none
def aFieldAddr (C : Ctx) (s : TypeId) (x : Value) (f : Nat) (st : St) : Option AR :=
 match C.tt.get s, x with
 | some ti, .pointer (some ⟨b, o, none⟩) =>
  match ti.desc with
  | .struct fields => match fieldPlace' C fields f with
   | some (off, size) => match Nat.blt 0 size with
    | true => val (ptr b (o + off)) st
    | false => none
   | none => none
  | _ => none
 | _, _ => none
def aPart (C : Ctx) (t : TypeId) (cs : List Value) (off : Nat) : Option Value :=
 match C.tt.get t with
 | some ti => match ti.agg with
  | true => match Nat.ble (off + ti.size) cs.length with
   | true => some (.agg ((cs.drop off).take ti.size).toArray)
   | false => none
  | false => nth cs off
 | none => none
def aField (C : Ctx) (t : TypeId) (x : Value) (f : Nat) (st : St) : Option AR :=
 match C.tt.get t, x with
 | some ti, .agg cs =>
  match ti.desc with
  | .struct fields => match nth fields.toList f with
   | some fd => match aPart C fd.type cs.toList fd.offset with
    | some v => val v st
    | none => none
   | none => none
  | _ => none
 | _, _ => none
def aIndexAddr (C : Ctx) (t : TypeId) (x i : Value) (st : St) : Option AR :=
 match C.tt.get t, x, i with
 | some ti, .slice (some ⟨b, o, none⟩) len _, .int _ (.ofNat k) =>
  match ti.desc with
  | .slice elem => match C.tt.get elem with
   | some te => match Nat.blt k len with
    | true => val (ptr b (o + k * te.size)) st
    | false => none
   | none => none
  | _ => none
 | some ti, .pointer (some ⟨b, o, none⟩), .int _ (.ofNat k) =>
  match ti.desc with
  | .array len elem => match C.tt.get elem with
   | some te => match Nat.blt k len with
    | true => val (ptr b (o + k * te.size)) st
    | false => none
   | none => none
  | _ => none
 | _, _, _ => none
def aIndex (C : Ctx) (t : TypeId) (x i : Value) (st : St) : Option AR :=
 match C.tt.get t, x, i with
 | some ti, .string s, .int _ (.ofNat k) =>
  match ti.desc with
  | .string => match nth s.data.toList k with
   | some b => val (.int .u8 b.toNat) st
   | none => none
  | _ => none
 | some ti, .agg cs, .int _ (.ofNat k) =>
  match ti.desc with
  | .array len elem => match C.tt.get elem with
   | some te => match Nat.blt k len with
    | true => match aPart C elem cs.toList (k * te.size) with
     | some v => val v st
     | none => none
    | false => none
   | none => none
  | _ => none
 | _, _, _ => none
def findK (d : TypeDesc) (k : Value) : List MapEntry -> Nat -> Option (Option (Nat × Value))
 | [], _ => some none
 | e :: r, i => match basicEq d k e.key with
  | some true => some (some (i, e.val))
  | some false => findK d k r (i + 1)
  | none => none
def basicKey : TypeDesc -> Bool
 | .string => true
 | .int _ => true
 | .bool => true
 | _ => false
def aLookup (C : Ctx) (t : TypeId) (x k : Value) (commaOk : Bool) (st : St) : Option AR :=
 match C.tt.get t with
 | none => none
 | some ti =>
  match ti.desc with
  | .map kt et =>
   match C.tt.get kt, C.tt.get et with
   | some tk, some te =>
    match basicKey tk.desc with
    | false => none
    | true =>
     match (match x with
      | .map none => some []
      | .map (some r) => match st.get r with
       | some (.map es _) => some es
       | _ => none
      | _ => none : Option (List MapEntry)) with
     | none => none
     | some es => match findK tk.desc k es 0 with
      | none => none
      | some (some (_, v)) => val (if commaOk then .tuple #[v, .bool true] else v) st
      | some none => match mkV te.agg te.zero with
       | none => none
       | some z => val (if commaOk then .tuple #[z, .bool false] else z) st
   | _, _ => none
  | _ => none
def mapSet : List MapEntry -> Nat -> Value -> Value -> List MapEntry
 | [], _, _, _ => []
 | e :: r, i, k, v => match i with
  | 0 => { e with key := k, val := v } :: r
  | j + 1 => e :: mapSet r j k v
def aMapUpdate (C : Ctx) (t : TypeId) (m k v : Value) (st : St) : Option AR :=
 match C.tt.get t, m with
 | some ti, .map (some r) =>
  match ti.desc with
  | .map kt _ =>
   match C.tt.get kt, st.get r with
   | some tk, some (.map es clock) =>
    match basicKey tk.desc with
    | false => none
    | true => match findK tk.desc k es 0 with
     | none => none
     | some (some (i, _)) => val undefV (st.put r (.map (mapSet es i k v) clock))
     | some none => val undefV (st.put r (.map (es ++ [{ key := k, val := v, born := clock }]) (clock + 1)))
   | _, _ => none
  | _ => none
 | _, _ => none
def aTypeAssert (C : Ctx) (x : Value) (t : TypeId) (commaOk : Bool) (st : St) : Option AR :=
 match C.tt.get t with
 | none => none
 | some ti =>
  match ti.desc with
  | .interface _ => none
  | _ =>
   match x with
   | .iface u v => match Nat.beq u t with
    | true => val (if commaOk then .tuple #[v, .bool true] else v) st
    | false => match commaOk, mkV ti.agg ti.zero with
     | true, some z => val (.tuple #[z, .bool false]) st
     | _, _ => none
   | .nilIface => match commaOk, mkV ti.agg ti.zero with
    | true, some z => val (.tuple #[z, .bool false]) st
    | _, _ => none
   | _ => none
def aExtract (x : Value) (i : Nat) (st : St) : Option AR :=
 match x with
 | .tuple vs => match nth vs.toList i with
  | some v => val v st
  | none => none
 | _ => none
def srcCells (st : St) (es n : Nat) : Value -> Option (List Value)
 | .slice none _ _ => some []
 | .slice (some ⟨b, o, none⟩) _ _ => readCells st b o (n * es)
 | .string s => some (ofBytes (s.data.toList.take n))
 | _ => none
def srcLen : Value -> Option Nat
 | .slice _ n _ => some n
 | .string s => some s.data.toList.length
 | _ => none
def limit : Nat := 1099511627776
def appendTo (st : St) (es : Nat) (base : Option Addr) (len cap : Nat) (n : Nat) (xs : List Value) : Option AR :=
 match Nat.ble (len + n) cap with
 | true =>
  match base with
  | none => val (.slice none (len + n) cap) st
  | some ⟨b, o, none⟩ =>
   match xs with
   | [] => val (.slice base (len + n) cap) st
   | _ => match writeCells st b (o + len * es) xs with
    | some st' => val (.slice base (len + n) cap) st'
    | none => none
  | _ => none
 | false =>
  match base with
  | none => val (.slice (some ⟨st.n, 0, none⟩) n n) (st.new (.cells xs es st.n 0))
  | some ⟨b, o, none⟩ =>
   match st.get b with
   | some (.cells c es' fam fo) =>
    match Nat.beq es' es, readCells st b o (len * es) with
    | true, some old =>
     let st1 := st.kill fam st.n (fo + o + len * es) (fo + o + (len + n) * es)
     let ms := match st1.fm.get fam with | some ms => ms | none => if Nat.ble c.length (o + len * es) then [b] else []
     let st2 := if Nat.ble c.length (o + len * es) then st1 else st1.put b .dead
     val (.slice (some ⟨st.n, 0, none⟩) (len + n) (len + n))
      { hp := st2.hp.set st.n (.cells (old ++ xs) es fam (fo + o)), n := st.n + 1, fm := st2.fm.set fam (st.n :: ms) }
    | _, _ => none
   | _ => none
  | _ => none
def aAppend (C : Ctx) (argTypes : List TypeId) (args : List Value) (st : St) : Option AR :=
 match argTypes, args with
 | [ts, tx], [s, x] =>
  match C.tt.get ts, C.tt.get tx, s with
  | some ti, some txi, .slice base len cap =>
   match ti.desc with
   | .slice elem =>
    match C.tt.get elem with
    | some te =>
     match txi.desc with
     | .int _ => none
     | _ => match srcLen x with
      | none => none
      | some n => match srcCells st te.size n x with
       | none => none
       | some xs => match Nat.blt 0 te.size && Nat.beq xs.length (n * te.size) && xs.all cellVal && Nat.ble ((len + n) * te.bytes) limit && Nat.ble (len + n) limit && Nat.beq te.zero.length te.size with
        | true => appendTo st te.size base len cap n xs
        | false => none
    | none => none
   | _ => none
  | _, _, _ => none
 | _, _ => none
def aCopy (C : Ctx) (argTypes : List TypeId) (args : List Value) (st : St) : Option AR :=
 match argTypes, args with
 | ts :: _, [.slice base dLen _, src] =>
  match C.tt.get ts with
  | some ti =>
   match ti.desc with
   | .slice elem => match C.tt.get elem, srcLen src with
    | some te, some sl =>
     match srcCells st te.size (Nat.min sl dLen) src with
     | some xs => match base, xs with
      | none, _ => val (.int .i64 (.ofNat (Nat.min sl dLen))) st
      | _, [] => val (.int .i64 (.ofNat (Nat.min sl dLen))) st
      | some ⟨b, o, none⟩, xs => match writeCells st b o xs with
       | some st' => val (.int .i64 (.ofNat (Nat.min sl dLen))) st'
       | none => none
      | _, _ => none
     | none => none
    | _, _ => none
   | _ => none
  | none => none
 | _, _ => none
def aLen (C : Ctx) (argTypes : List TypeId) (args : List Value) (st : St) : Option AR :=
 match argTypes, args with
 | t :: _, x :: _ =>
  match C.tt.get t with
  | none => none
  | some ti =>
   match ti.desc, x with
   | .string, .string s => val (.int .i64 (.ofNat s.data.toList.length)) st
   | .array n _, _ => val (.int .i64 (.ofNat n)) st
   | .slice _, .slice _ n _ => val (.int .i64 (.ofNat n)) st
   | .map _ _, .map none => val (.int .i64 (.ofNat 0)) st
   | .map _ _, .map (some r) => match st.get r with
    | some (.map es _) => val (.int .i64 (.ofNat es.length)) st
    | _ => none
   | _, _ => none
 | _, _ => none
def foldMin (gt : Bool) : Value -> List Value -> Option Value
 | .int k a, [] => some (.int k a)
 | .int k a, .int _ b :: r => foldMin gt (.int k (if (match gt with | true => intLt a b | false => intLt b a) then b else a)) r
 | _, _ => none
def aBuiltin (C : Ctx) (b : Builtin) (argTypes : List TypeId) (args : List Value) (st : St) : Option AR :=
 match b with
 | .append => aAppend C argTypes args st
 | .copy => aCopy C argTypes args st
 | .len => aLen C argTypes args st
 | .max => match args with
  | x :: r => match foldMin true x r with
   | some v => val v st
   | none => none
  | [] => none
 | .min => match args with
  | x :: r => match foldMin false x r with
   | some v => val v st
   | none => none
  | [] => none
 | .recover => some .recover
 | _ => none
def aCallValue (C : Ctx) (f : Value) (args : List Value) (st : St) : Option AR :=
 match f with
 | .func (.func g) first captured =>
  let all := first.toList ++ args ++ captured.toList
  match C.ff.get g with
  | some _ => some (.enter g all)
  | none => match C.ext g all with
   | some v => val v st
   | none => none
 | .func (.yield l) first _ => match first.toList with
  | [] => some (.yield l args)
  | _ => none
 | _ => none
def aDefer (f : Value) (args : List Value) : Option AR :=
 match f with
 | .func (.func g) first captured => some (.defer { target := .fn (.func g) captured, args := (first.toList ++ args).toArray })
 | _ => none
def aop (C : Ctx) (ev : Operand -> Option Value) (o : Oper) (st : St) : Option AR :=
 match o.op with
 | .move x => match ev x with | some v => val v st | none => none
 | .assign x => match ev x with | some v => val v st | none => none
 | .pick c a b => match ev c, ev a, ev b with
  | some (.bool t), some u, some v => val (match t with | true => u | false => v) st
  | _, _, _ => none
 | .alloc t => aAlloc C t st
 | .box _ x => match ev x with | some v => aBox v st | none => none
 | .build t ps => match evParts ev ps.toList with | some l => aBuild C t l st | none => none
 | .buildSlice t n ps => match evParts ev ps.toList with | some l => aBuildSlice C t n l st | none => none
 | .load t a => match ev a with | some v => aLoad C t v st | none => none
 | .store t a x => match ev a, ev x with | some v, some u => aStore C t v u st | _, _ => none
 | .nilCheck x => match ev x with | some v => aNilCheck v st | none => none
 | .binOp op t x y _ => match ev x, ev y with
  | some u, some v => match aBin C op t x y u v with
   | some r => val r st
   | none => none
  | _, _ => none
 | .unOp op _ x => match ev x with
  | some u => match aUn op u with
   | some r => val r st
   | none => none
  | none => none
 | .convert s d x => match ev x with | some v => aConvert C s d v st | none => none
 | .makeInterface t x => match ev x with | some v => aMakeInterface C t v st | none => none
 | .makeFunc fn a b => match fnOk fn, evList ev a.toList, evList ev b.toList with
  | true, some u, some v => val (.func fn u.toArray v.toArray) st
  | _, _, _ => none
 | .makeMap _ none => val (.map (some st.n)) (st.new (.map [] 0))
 | .makeSlice t l c => match ev l, ev c with | some u, some v => aMakeSlice C t u v st | _, _ => none
 | .slice t x lo hi mx => match ev x, (match lo with | none => some none | some l => (ev l).map some), (match hi with | none => some none | some l => (ev l).map some), (match mx with | none => some none | some l => (ev l).map some) with
  | some v, some l, some h, some m => aSlice C t v l h m st
  | _, _, _, _ => none
 | .fieldAddr t x f => match ev x with | some v => aFieldAddr C t v f st | none => none
 | .field t x f => match ev x with | some v => aField C t v f st | none => none
 | .indexAddr t x i => match ev x, ev i with | some u, some v => aIndexAddr C t u v st | _, _ => none
 | .index t x i => match ev x, ev i with | some u, some v => aIndex C t u v st | _, _ => none
 | .lookup t x i ok => match ev x, ev i with | some u, some v => aLookup C t u v ok st | _, _ => none
 | .mapUpdate t m k v => match ev m, ev k, ev v with | some m, some k, some v => aMapUpdate C t m k v st | _, _, _ => none
 | .insert t m k v => match ev m, ev k, ev v with | some m, some k, some v => aMapUpdate C t m k v st | _, _, _ => none
 | .typeAssert x _ t ok => match ev x with | some v => aTypeAssert C v t ok st | none => none
 | .extract x i => match ev x with | some v => aExtract v i st | none => none
 | .call c => match evList ev c.args.toList with
  | none => none
  | some args => match c.callee with
   | .builtin b => aBuiltin C b c.argTypes.toList args st
   | .value f => match ev f with
    | some v => aCallValue C v args st
    | none => none
   | .invoke _ _ => none
 | .defer c => match evList ev c.args.toList, c.callee with
  | some args, .value f => match ev f with
   | some v => aDefer v args
   | none => none
  | _, _ => none
 | .panic x => match ev x with
  | some (.iface t v) => some (.pan (.iface t v) st)
  | _ => none
 | _ => none
def flat : Value -> Bool
 | .bool _ => true
 | .int _ _ => true
 | .string _ => true
 | .pointer none => true
 | .slice none 0 0 => true
 | .map none => true
 | .nilFunc => true
 | .nilIface => true
 | _ => false
def constFlat : Value -> Bool
 | .agg ⟨l⟩ => l.all flat
 | v => flat v
structure Rec where
 code : FC -> Code -> Fr -> PanS -> St -> Option (Ex × Fr × PanS × St)
 call : FuncId -> List Value -> Bool -> PanS -> St -> Option (CR × PanS × St)
 round : Nat -> List Value -> St -> Option (CR × St)
def Rec.bot : Rec := ⟨fun _ _ _ _ _ => none, fun _ _ _ _ _ => none, fun _ _ _ => none⟩
def evOp (fr : Fr) : Operand -> Option Value
 | .tmp t => fr.tm.get t
 | .const v => match constFlat v with
  | true => some v
  | false => none
 | .global _ => none
 | .func f => some (.func (.func f) #[] #[])
def setDst (nt : Nat) (fr : Fr) (dst : Option Tmp) (v : Value) : Option Fr :=
 match dst with
 | none => some fr
 | some d => match Nat.blt d nt with
  | true => some { fr with tm := fr.tm.set d v }
  | false => none
inductive OpR where
 | next (fr : Fr) (ps : PanS) (st : St)
 | pan (v : Value) (fr : Fr) (ps : PanS) (st : St)
def OpR.go (nt : Nat) (fr : Fr) (dst : Option Tmp) (v : Value) (ps : PanS) (st : St) : Option OpR :=
 match setDst nt fr dst v with
 | some fr' => some (.next fr' ps st)
 | none => none
def runOp (C : Ctx) (rc : Rec) (fc : FC) (o : Oper) (fr : Fr) (ps : PanS) (st : St) : Option OpR :=
 match aop C (evOp fr) o st with
 | none => none
 | some (.val v st') => OpR.go fc.nt fr o.dst v ps st'
 | some (.pan v st') => some (.pan v fr ps st')
 | some (.enter f args) => match rc.call f args false .none st with
  | some (.ret v, _, st') => OpR.go fc.nt fr o.dst v ps st'
  | some (.pan v, _, st') => some (.pan v fr ps st')
  | none => none
 | some (.yield l args) => match rc.round l args st with
  | some (.ret v, st') => OpR.go fc.nt fr o.dst v ps st'
  | some (.pan v, st') => some (.pan v fr ps st')
  | none => none
 | some .recover => match fc.round with
  | some _ => none
  | none => match fc.dfd, ps with
   | true, .pend v => OpR.go fc.nt fr o.dst v .recd st
   | _, _ => OpR.go fc.nt fr o.dst .nilIface ps st
 | some (.defer d) => match fc.round with
  | some _ => none
  | none => OpR.go fc.nt { fr with df := d :: fr.df } o.dst undefV ps st
def wantedA (ops : List Oper) (fr : Fr) (o : Oper) : Option Bool :=
 match o.guard with
 | none => some true
 | some (j, want) => match nth ops j with
  | none => none
  | some oj => match oj.dst with
   | none => none
   | some d => match fr.tm.get d with
    | some (.bool b) => some (match b, want with | true, true => true | false, false => true | _, _ => false)
    | some (.tuple _) => some false
    | _ => none
def stepOp (C : Ctx) (rc : Rec) (fc : FC) (ops : List Oper) (o : Oper) (fr : Fr) (ps : PanS) (st : St) : Option OpR :=
 match wantedA ops fr o with
 | none => none
 | some false => OpR.go fc.nt fr o.dst undefV ps st
 | some true => runOp C rc fc o fr ps st
def seqOps (C : Ctx) (rc : Rec) (fc : FC) (ops : List Oper) : List Oper -> Fr -> PanS -> St -> Option (Ex × Fr × PanS × St)
 | [], fr, ps, st => some (.norm, fr, ps, st)
 | o :: r, fr, ps, st => match stepOp C rc fc ops o fr ps st with
  | none => none
  | some (.next fr ps st) => seqOps C rc fc ops r fr ps st
  | some (.pan v fr ps st) => some (.panic v, fr, ps, st)
def isEff : Op -> Bool
 | .assign _ | .store .. | .mapUpdate .. | .mapEntry .. | .entryStore .. | .insert .. | .ready _ | .next .. | .go _ | .defer _ | .panic _ | .send .. | .recv .. | .select .. => true
 | .call { callee := .builtin b, .. } => match b with
  | .len | .cap | .min | .max => false
  | _ => true
 | .call _ => true
 | _ => false
def isMaker : Op -> Bool
 | .alloc _ | .box .. | .buildSlice .. | .makeMap .. => true
 | _ => false
def opAt (ops : List Oper) (i : Nat) : Option Oper := nth ops i
def befores (ops : List Oper) : List Nat := (Region.before ops.toArray).toList
def findIdx (p : Nat -> Bool) : Nat -> Nat -> Option Nat
 | 0, _ => none
 | k + 1, i => match p i with
  | true => some i
  | false => findIdx p k (i + 1)
def subset (a b : Nat) : Bool := Nat.beq (Nat.land a b) a
def canonGo (ops : List Oper) (bs : List Nat) (n : Nat) : Nat -> Nat -> List Nat
 | 0, _ => []
 | fuel + 1, done =>
  let ready (i : Nat) : Bool := !(Nat.testBit done i) && (match nth bs i with | some b => subset b done | none => false)
  let eff (i : Nat) : Bool := match nth ops i with | some o => isEff o.op | none => false
  match findIdx (fun i => ready i && !(eff i)) n 0 with
  | some i => i :: canonGo ops bs n fuel (Nat.lor done (2 ^ i))
  | none => match findIdx ready n 0 with
   | some i => i :: canonGo ops bs n fuel (Nat.lor done (2 ^ i))
   | none => []
def tailKind : Op -> Bool
 | .store .. | .indexAddr .. | .fieldAddr .. => true
 | _ => false
def chained (ops : List Oper) (bs : List Nat) (m : Nat) : Bool :=
 (List.range m).all fun j => match nth ops j with
  | none => false
  | some oj => !(isEff oj.op) || (List.range j).all fun i => match nth ops i with
   | none => false
   | some oi => !(isEff oi.op) || (match nth bs j with | some b => Nat.testBit b i | none => false)
def tailFrom (ops : List Oper) (bs : List Nat) (n m : Nat) : Bool :=
 (List.range (n - m)).all fun k => (match nth bs (m + k) with | some b => subset (2 ^ m - 1) b | none => false) && (match nth ops (m + k) with | some o => tailKind o.op && o.guard.isNone | none => false)
def tailAt (ops : List Oper) (bs : List Nat) : Nat -> Nat
 | 0 => 0
 | m + 1 => match chained ops bs (m + 1) && tailFrom ops bs ops.length (m + 1) with
  | true => m + 1
  | false => tailAt ops bs m
structure Plan where
 bs : List Nat
 m : Nat
 order : List Nat
def forceN {α : Type} (n : Nat) (k : Nat -> α) : α :=
 match n with
 | 0 => k 0
 | m + 1 => k (m + 1)
def forceL {α : Type} : List Nat -> (List Nat -> α) -> α
 | [], k => k []
 | x :: r, k => forceN x fun x => forceL r fun r => k (x :: r)
def rowOf (bs : List Nat) (o : Oper) : Nat := o.after.toList.foldl (fun s e => match Region.binds .any e with | true => Nat.lor (Nat.lor s (2 ^ e.on)) (match nth bs e.on with | some b => b | none => 0) | false => s) 0
def rowsGo : List Oper -> List Nat -> List Nat
 | [], bs => bs
 | o :: r, bs => forceL (bs ++ [rowOf bs o]) fun bs => rowsGo r bs
def badAt : List Oper -> List Nat -> Nat -> Nat -> Option Nat
 | o :: r, b :: bs, i, mask => match isEff o.op with
  | true => match subset mask b with
   | true => forceN (Nat.lor mask (2 ^ i)) fun mask => badAt r bs (i + 1) mask
   | false => some i
  | false => badAt r bs (i + 1) mask
 | _, _, _, _ => none
def itemsGo : List Oper -> List Nat -> Nat -> Nat -> List (Nat × Bool × Nat)
 | o :: r, b :: bs, i, n + 1 => (i, isEff o.op, b) :: itemsGo r bs (i + 1) n
 | _, _, _, _ => []
def firstEff : List (Nat × Bool × Nat) -> Option Nat
 | [] => none
 | (i, true, _) :: _ => some i
 | (_, false, _) :: r => firstEff r
def early (e : Nat) : Nat × Bool × Nat -> Bool
 | (_, true, _) => false
 | (_, false, b) => !(Nat.testBit b e)
def orderGo : Nat -> List (Nat × Bool × Nat) -> List Nat
 | 0, _ => []
 | fuel + 1, l => match firstEff l with
  | none => l.map (·.1)
  | some e => (l.filter (early e)).map (·.1) ++ e :: orderGo fuel (l.filter fun x => !(Nat.beq x.1 e) && !(early e x))
def plan (ops : List Oper) : Plan :=
 forceL (rowsGo ops []) fun bs =>
 forceN (match badAt ops bs 0 0 with | none => ops.length | some j => tailAt ops bs j) fun m =>
 forceL (orderGo (m + 1) (itemsGo ops bs 0 m)) fun order => ⟨bs, m, order⟩
inductive Chk where
 | val (i : Nat) (v : Value)
 | obj (i : Nat) (v : Value) (b : Nat) (o : AObj)
 | skip (i : Nat)
def entryEq (a b : MapEntry) : Bool := veq a.key b.key && veq a.val b.val && Nat.beq a.born b.born
def entriesEq : List MapEntry -> List MapEntry -> Bool
 | [], [] => true
 | a :: x, b :: y => entryEq a b && entriesEq x y
 | _, _ => false
def objEq : AObj -> AObj -> Bool
 | .cells c e f p, .cells c' e' f' p' => veqL c c' && Nat.beq e e' && Nat.beq f f' && Nat.beq p p'
 | .map es k, .map es' k' => entriesEq es es' && Nat.beq k k'
 | .iter s p, .iter s' p' => strEq s s' && Nat.beq p p'
 | _, _ => false
def tmpIs (fr : Fr) (dst : Option Tmp) (v : Value) : Bool :=
 match dst with
 | none => true
 | some d => match fr.tm.get d with
  | some u => veq u v
  | none => false
def isSome (r : Option Bool) (b : Bool) : Bool :=
 match r, b with
 | some true, true => true
 | some false, false => true
 | _, _ => false
def stands (C : Ctx) (ops : List Oper) (fr : Fr) (st : St) : Chk -> Bool
 | .val i v => match nth ops i with
  | some o => isSome (wantedA ops fr o) true && !(isMaker o.op) && tmpIs fr o.dst v && (match aop C (evOp fr) o st with
   | some (.val u s) => veq u v && Nat.beq s.n st.n
   | _ => false)
  | none => false
 | .obj i v bl ob => match nth ops i with
  | some o => isSome (wantedA ops fr o) true && isMaker o.op && tmpIs fr o.dst v && (match st.get bl with
   | some o' => objEq o' ob
   | none => false) && (match aop C (evOp fr) o ⟨.nil, bl, .nil⟩ with
   | some (.val u s) => veq u v && (match s.get bl with
    | some o' => objEq o' ob
    | none => false)
   | _ => false)
  | none => false
 | .skip i => match nth ops i with
  | some o => isSome (wantedA ops fr o) false && tmpIs fr o.dst undefV
  | none => false
def Chk.idx : Chk -> Nat
 | .val i _ => i
 | .obj i _ _ _ => i
 | .skip i => i
def recheck (C : Ctx) (ops : List Oper) (fr : Fr) (st : St) (b : Nat) : List Chk -> Bool
 | [] => true
 | c :: r => (Nat.testBit b c.idx || stands C ops fr st c) && recheck C ops fr st b r
def eraseDsts (ops : List Oper) (tm : Tr Value) : Tr Value :=
 ops.foldl (fun tm o => match o.dst with
  | some d => match isEff o.op with
   | true => tm
   | false => tm.put d none
  | none => tm) tm
def drawOps (C : Ctx) (rc : Rec) (fc : FC) (ops : List Oper) (bs : List Nat) : List Nat -> Nat -> List Chk -> Fr -> PanS -> St -> Option (Ex × Fr × PanS × St)
 | [], b, chks, fr, ps, st =>
  match recheck C ops fr st b chks with
  | true => some (.norm, fr, ps, st)
  | false => none
 | i :: r, b, chks, fr, ps, st =>
  match nth ops i, nth bs i with
  | some o, some bi =>
   match isEff o.op with
   | true =>
    match recheck C ops fr st b chks with
    | false => none
    | true => match stepOp C rc fc ops o fr ps st with
     | none => none
     | some (.pan v fr ps st) => some (.panic v, { fr with tm := eraseDsts ops fr.tm }, ps, st)
     | some (.next fr ps st) => drawOps C rc fc ops bs r bi chks fr ps st
   | false =>
    match wantedA ops fr o with
    | none => none
    | some false => match setDst fc.nt fr o.dst undefV with
     | some fr => drawOps C rc fc ops bs r b (.skip i :: chks) fr ps st
     | none => none
    | some true => match aop C (evOp fr) o st with
     | some (.val v st') => match setDst fc.nt fr o.dst v with
      | none => none
      | some fr => match isMaker o.op with
       | true => match st'.get st.n with
        | some ob => drawOps C rc fc ops bs r b (.obj i v st.n ob :: chks) fr ps st'
        | none => none
       | false => match Nat.beq st'.n st.n with
        | true => drawOps C rc fc ops bs r b (.val i v :: chks) fr ps st'
        | false => none
     | _ => none
  | _, _ => none
def apart (st : St) (b1 b2 : Nat) : Bool :=
 match st.get b1, st.get b2 with
 | some (.cells _ _ f1 _), some (.cells _ _ f2 _) =>
  !(Nat.beq b1 b2) && !(Nat.beq f1 f2) && (match st.fm.get f2 with | none => true | some _ => false) && (match st.fm.get f1 with | none => true | some ms => !(ms.any (Nat.beq b2)))
 | _, _ => false
def tail3 (C : Ctx) (fc : FC) (a s1 s2 : Oper) (fr : Fr) (ps : PanS) (st : St) : Option (Ex × Fr × PanS × St) :=
 match a.dst, s1.dst, s2.dst, s1.op, s2.op, isEff a.op || isMaker a.op with
 | some d, none, none, .store t1 x1 y1, .store t2 x2 y2, false =>
  match aop C (evOp fr) a st with
  | some (.val v sta) => match Nat.beq sta.n st.n, setDst fc.nt fr (some d) v with
   | true, some fra => match evOp fra x1, evOp fra y1, evOp ⟨fr.tm.put d none, fr.df⟩ x2, evOp ⟨fr.tm.put d none, fr.df⟩ y2 with
    | some (.pointer (some ⟨b1, o1, none⟩)), some u1, some (.pointer (some ⟨b2, o2, none⟩)), some u2 => match apart st b1 b2 with
     | false => none
     | true => match aStore C t1 (.pointer (some ⟨b1, o1, none⟩)) u1 st, aStore C t2 (.pointer (some ⟨b2, o2, none⟩)) u2 st with
      | some (.val _ st1), some (.val _ st2) => match aop C (evOp fr) a st2 with
       | some (.val v2 st2') => match veq v v2 && Nat.beq st2'.n st2.n with
        | false => none
        | true => match aStore C t2 (.pointer (some ⟨b2, o2, none⟩)) u2 st1, aStore C t1 (.pointer (some ⟨b1, o1, none⟩)) u1 st2 with
         | some (.val _ st12), some (.val _ _) => some (.norm, fra, ps, st12)
         | _, _ => none
       | _ => none
      | _, _ => none
    | _, _, _, _ => none
   | _, _ => none
  | _ => none
 | _, _, _, _, _, _ => none
def region (C : Ctx) (rc : Rec) (fc : FC) (ops : Array Oper) (draw : Bool) (fr : Fr) (ps : PanS) (st : St) : Option (Ex × Fr × PanS × St) :=
 match draw with
 | false => seqOps C rc fc ops.toList ops.toList fr ps st
 | true =>
  let p := plan ops.toList
  match drawOps C rc fc ops.toList p.bs p.order 0 [] fr ps st with
  | some (.norm, fr, ps, st) => match Nat.beq p.m ops.toList.length with
   | true => some (.norm, fr, ps, st)
   | false => match ops.toList.drop p.m, nth p.bs (p.m + 1) with
    | [a, s1, s2], some b1 => match Nat.testBit b1 p.m with
     | true => tail3 C fc a s1 s2 fr ps st
     | false => none
    | _, _ => none
  | r => r
def enterRange (fc : FC) (fr : Fr) (params : List Tmp) (assign body : Code) (st : St) : Option (Nat × Fr × St) :=
 match fc.round with
 | some l => match st.get l with
  | some (.loop al) => some (st.n, fr, st.new (.loop { state := .ready, pending := none, fn := fc.fn, tm := fr.tm, nt := fc.nt, params, assign, body, defers := al.defers }))
  | _ => none
 | none =>
  let r := st.n
  let st1 := st.new (.defl false)
  some (st1.n, { fr with df := { target := .collected r, args := #[] } :: fr.df }, st1.new (.loop { state := .ready, pending := none, fn := fc.fn, tm := fr.tm, nt := fc.nt, params, assign, body, defers := r }))
def jumpOf : Option Code -> Option Ex
 | none => some .norm
 | some .ret => some .ret
 | some (.exit id) => some (.exit id)
 | _ => none
def code (C : Ctx) (rc : Rec) (fc : FC) : Code -> Fr -> PanS -> St -> Option (Ex × Fr × PanS × St)
 | .skip, fr, ps, st => some (.norm, fr, ps, st)
 | .region _ ops draw, fr, ps, st => region C rc fc ops draw fr ps st
 | .seq a b, fr, ps, st => match code C rc fc a fr ps st with
  | some (.norm, fr, ps, st) => code C rc fc b fr ps st
  | r => r
 | .cond c a b, fr, ps, st => match evOp fr c with
  | some (.bool true) => code C rc fc a fr ps st
  | some (.bool false) => code C rc fc b fr ps st
  | _ => none
 | .block id b, fr, ps, st => match code C rc fc b fr ps st with
  | some (.exit id', fr, ps, st) => match Nat.beq id' id with
   | true => some (.norm, fr, ps, st)
   | false => some (.exit id', fr, ps, st)
  | r => r
 | .loop b, fr, ps, st => match code C rc fc b fr ps st with
  | some (.norm, fr, ps, st) => rc.code fc (.loop b) fr ps st
  | r => r
 | .rangeFunc f params assign body, fr, ps, st =>
  match evOp fr f, enterRange fc fr params.toList assign body st with
  | some (.func (.func g) first captured), some (l, fr, st) =>
   match C.ff.get g with
   | none => none
   | some _ => match rc.call g (first.toList ++ [.func (.yield l) #[] #[]] ++ captured.toList) false .none st with
    | some (.ret _, _, st) => match st.get l with
     | some (.loop al) => match al.state with
      | .busy => none
      | _ => match jumpOf al.pending with
       | some x => some (x, fr, ps, st.put l (.loop { al with state := .exhausted }))
       | none => none
     | _ => none
    | some (.pan v, _, st) => some (.panic v, fr, ps, st)
    | none => none
  | _, _ => none
 | .exit id, fr, ps, st => some (.exit id, fr, ps, st)
 | .ret, fr, ps, st => some (.ret, fr, ps, st)
 | _, _, _, _ => none
inductive Mode where
 | returning
 | panicking (v : Value)
def unwindL (C : Ctx) (rc : Rec) : List Deferred -> Mode -> St -> Option (Mode × St)
 | [], m, st => some (m, st)
 | d :: ds, m, st =>
  match d.target with
  | .collected r => match st.get r with
   | some (.defl false) => unwindL C rc ds m (st.put r (.defl true))
   | _ => none
  | .fn (.func f) captured =>
   match C.ff.get f, rc.call f (d.args.toList ++ captured.toList) true (match m with | .returning => .none | .panicking v => .pend v) st with
   | some _, some (.ret _, ps, st) => unwindL C rc ds (match m, ps with | .panicking _, .recd => .returning | m, _ => m) st
   | _, _ => none
  | _ => none
def resVal (C : Ctx) (tm : Tr Value) (st : St) : ResultVar -> Option Value
 | .tmp t => tm.get t
 | .cell a t => match tm.get a with
  | some p => match aLoad C t p st with
   | some (.val v _) => some v
   | _ => none
  | none => none
def resVals (C : Ctx) (tm : Tr Value) (st : St) : List ResultVar -> Option (List Value)
 | [] => some []
 | r :: l => match resVal C tm st r, resVals C tm st l with
  | some v, some vs => some (v :: vs)
  | _, _ => none
def finishV : List Value -> Value
 | [v] => v
 | vs => .tuple vs.toArray
def finish (C : Ctx) (rc : Rec) (fi : FI) (m : Mode) (fr : Fr) (ps : PanS) (st : St) : Option (CR × PanS × St) :=
 match unwindL C rc fr.df m st with
 | none => none
 | some (.panicking v, st) => some (.pan v, ps, st)
 | some (.returning, st) => match resVals C fr.tm st fi.res with
  | some vs => some (.ret (finishV vs), ps, st)
  | none => none
def callF (C : Ctx) (rc : Rec) (f : FuncId) (args : List Value) (dfd : Bool) (ps : PanS) (st : St) : Option (CR × PanS × St) :=
 match C.ff.get f with
 | none => none
 | some fi => match Nat.ble args.length fi.nt with
  | false => none
  | true => match code C rc ⟨f, fi.nt, none, dfd⟩ fi.body ⟨Tr.ofListFrom 0 args .nil, []⟩ ps st with
   | some (.norm, fr, ps, st) => finish C rc fi .returning fr ps st
   | some (.ret, fr, ps, st) => finish C rc fi .returning fr ps st
   | some (.panic v, fr, ps, st) => finish C rc fi (.panicking v) fr ps st
   | _ => none
def setParams : List Tmp -> List Value -> Nat -> Tr Value -> Option (Tr Value)
 | [], [], _, tm => some tm
 | t :: ts, v :: vs, nt, tm => match Nat.blt t nt with
  | true => setParams ts vs nt (tm.set t v)
  | false => none
 | _, _, _, _ => none
def roundF (C : Ctx) (rc : Rec) (l : Nat) (args : List Value) (st : St) : Option (CR × St) :=
 match st.get l with
 | some (.loop al) =>
  match C.ff.get al.fn, setParams al.params args al.nt al.tm with
  | none, _ => none
  | _, none => none
  | some _, some tm =>
   let fc : FC := ⟨al.fn, al.nt, some l, false⟩
   match code C rc fc al.assign ⟨tm, []⟩ .none st with
   | some (.norm, fr, _, st) => match st.get l with
    | some (.loop al1) => match al1.state with
     | .ready => match code C rc fc al.body fr .none (st.put l (.loop { al1 with state := .busy })) with
      | some (.norm, fr, _, st) => match st.get l, fr.df with
       | some (.loop al), [] => some (.ret (.bool true), st.put l (.loop { al with state := .ready, pending := none }))
       | _, _ => none
      | some (.ret, fr, _, st) => match st.get l, fr.df with
       | some (.loop al), [] => some (.ret (.bool false), st.put l (.loop { al with state := .done, pending := some .ret }))
       | _, _ => none
      | some (.exit id, fr, _, st) => match st.get l, fr.df with
       | some (.loop al), [] => some (.ret (.bool false), st.put l (.loop { al with state := .done, pending := some (.exit id) }))
       | _, _ => none
      | some (.panic v, fr, _, st) => match fr.df with
       | [] => some (.pan v, st)
       | _ => none
      | none => none
     | _ => none
    | _ => none
   | _ => none
 | _ => none
def recN (C : Ctx) (intr : FuncId -> List Value -> Option Value) : Nat -> Rec
 | 0 => Rec.bot
 | n + 1 => {
   code := fun fc c fr ps st => code C (recN C intr n) fc c fr ps st
   call := fun f args dfd ps st => match dfd, intr f args with
    | false, some v => some (.ret v, ps, st)
    | _, _ => callF C (recN C intr n) f args dfd ps st
   round := fun l args st => roundF C (recN C intr n) l args st }
def isEffAt (ops : List Oper) (i : Nat) : Bool := match nth ops i with | some o => isEff o.op | none => false
def bitAt (bs : List Nat) (i j : Nat) : Bool := match nth bs i with | some b => Nat.testBit b j | none => false
def laterOk (ops : List Oper) (bs : List Nat) : List Nat -> Bool
 | [] => true
 | e :: r => (!(isEffAt ops e) || r.all fun i => bitAt bs i e) && laterOk ops bs r
def tmpsOf : List Operand -> List Tmp
 | [] => []
 | .tmp t :: r => t :: tmpsOf r
 | _ :: r => tmpsOf r
def readsOf (ops : List Oper) (o : Oper) : List Tmp :=
 tmpsOf o.op.operands.toList ++ (match o.guard with
  | none => []
  | some (j, _) => match nth ops j with
   | some oj => match oj.dst with
    | some d => [d]
    | none => []
   | none => [])
def readsOk (ops : List Oper) (bs : List Nat) (n : Nat) : Bool :=
 (List.range n).all fun j => match nth ops j with
  | none => false
  | some oj => isEff oj.op || (match oj.dst with
   | none => true
   | some t => (List.range n).all fun i => (match nth ops i with
    | none => false
    | some oi => !((readsOf ops oi).any (Nat.beq t)) || bitAt bs i j))
def planOk (ops : List Oper) : Bool :=
 let p := plan ops
 ((List.range ops.length).all fun i => match nth ops i with
  | none => false
  | some o => o.after.toList.all fun e => !(Region.binds .any e) || Nat.blt e.on i) &&
 ((List.range ops.length).all fun i => match nth ops i, nth p.bs i with
  | some o, some b => Nat.beq b (rowOf p.bs o)
  | _, _ => false) &&
 Nat.ble p.m ops.length && ((List.range p.m).all fun i => p.order.any (Nat.beq i)) && (p.order.all fun i => Nat.blt i p.m) && Nat.beq p.order.length p.m &&
 laterOk ops p.bs p.order && readsOk ops p.bs ops.length && tailFrom ops p.bs ops.length p.m
def codeOk : Code -> Bool
 | .region _ ops true => planOk ops.toList
 | .seq a b => codeOk a && codeOk b
 | .cond _ a b => codeOk a && codeOk b
 | .block _ b => codeOk b
 | .loop b => codeOk b
 | .rangeFunc _ _ a b => codeOk a && codeOk b
 | _ => true
open Go.RowKit (Below)
theorem pathF_zero (k : Nat) : pathF k 0 = [] := by cases k <;> rfl
theorem pathF_inj : ∀ (k k' n m : Nat), n <= k -> m <= k' -> pathF k n = pathF k' m -> n = m := by
 intro k
 induction k with
 | zero =>
  intro k' n m hn hm h
  have : n = 0 := by omega
  subst this
  cases m with
  | zero => rfl
  | succ m =>
   cases k' with
   | zero => omega
   | succ k' => simp [pathF] at h
 | succ k ih =>
  intro k' n m hn hm h
  cases n with
  | zero =>
   cases m with
   | zero => rfl
   | succ m =>
    cases k' with
    | zero => omega
    | succ k' => simp [pathF] at h
  | succ n =>
   cases m with
   | zero => rw [pathF_zero] at h; simp [pathF] at h
   | succ m =>
    cases k' with
    | zero => omega
    | succ k' =>
     simp only [pathF, List.cons.injEq] at h
     have h2 := ih k' (n / 2) (m / 2) (by omega) (by omega) h.2
     have h1 : (n % 2 = 0) ↔ (m % 2 = 0) := by
      have e := h.1
      rw [Bool.eq_iff_iff, Nat.beq_eq, Nat.beq_eq] at e
      exact e
     omega
theorem path_inj {n m : Nat} (h : path n = path m) : n = m := pathF_inj n m n m (Nat.le_refl _) (Nat.le_refl _) h
theorem Tr.getP_nil {α : Type} (p : List Bool) : Tr.getP p (Tr.nil : Tr α) = none := by cases p <;> rfl
theorem Tr.getP_putP_same {α : Type} (o : Option α) : ∀ (p : List Bool) (t : Tr α), Tr.getP p (Tr.putP o p t) = o := by
 intro p
 induction p with
 | nil => intro t; cases t <;> rfl
 | cons b p ih => intro t; cases t <;> cases b <;> simp [Tr.putP, Tr.getP, ih]
theorem Tr.getP_putP_ne {α : Type} (o : Option α) : ∀ (p q : List Bool) (t : Tr α), p ≠ q -> Tr.getP q (Tr.putP o p t) = Tr.getP q t := by
 intro p
 induction p with
 | nil =>
  intro q t h
  cases q with
  | nil => exact absurd rfl h
  | cons c q => cases t <;> cases c <;> simp [Tr.putP, Tr.getP, Tr.getP_nil]
 | cons b p ih =>
  intro q t h
  cases q with
  | nil => cases t <;> cases b <;> simp [Tr.putP, Tr.getP]
  | cons c q =>
   have hpq : b = c -> p ≠ q := fun e e' => h (by rw [e, e'])
   cases t <;> cases b <;> cases c <;> simp_all [Tr.putP, Tr.getP, Tr.getP_nil]
theorem Tr.get_put {α : Type} (t : Tr α) (n m : Nat) (o : Option α) : (t.put n o).get m = if m = n then o else t.get m := by
 unfold Tr.get Tr.put
 by_cases h : m = n
 ·subst h; rw [if_pos rfl, Tr.getP_putP_same]
 ·rw [if_neg h, Tr.getP_putP_ne _ _ _ _ (fun e => h (path_inj e).symm)]
theorem Tr.get_set {α : Type} (t : Tr α) (n m : Nat) (v : α) : (t.set n v).get m = if m = n then some v else t.get m := Tr.get_put t n m (some v)
theorem Tr.get_nil {α : Type} (n : Nat) : (Tr.nil : Tr α).get n = none := Tr.getP_nil _
theorem nth_eq {α : Type} : ∀ (l : List α) (i : Nat), nth l i = l[i]? := by
 intro l
 induction l with
 | nil => intro i; rfl
 | cons x l ih => intro i; cases i <;> simp [nth, ih]
theorem Tr.get_ofListFrom {α : Type} : ∀ (l : List α) (i : Nat) (t : Tr α) (m : Nat), (Tr.ofListFrom i l t).get m = if i <= m /\ m < i + l.length then l[m - i]? else t.get m := by
 intro l
 induction l with
 | nil => intro i t m; simp only [Tr.ofListFrom, List.length_nil]; rw [if_neg (by omega)]
 | cons x l ih =>
  intro i t m
  simp only [Tr.ofListFrom, ih, Tr.get_set, List.length_cons]
  by_cases h1 : m = i
  ·subst h1
   rw [if_neg (by omega), if_pos rfl, if_pos (by omega), Nat.sub_self]
   rfl
  ·by_cases h2 : i + 1 <= m /\ m < i + 1 + l.length
   ·rw [if_pos h2, if_pos (by omega), show m - i = (m - (i + 1)) + 1 from by omega]
    rfl
   ·rw [if_neg h2, if_neg h1, if_neg (by omega)]
structure Loc where
 b : Nat
 d : Nat
 es : Nat
 sz : Nat
abbrev Ren := Nat -> Option Loc
def Ren.le (ρ ρ' : Ren) : Prop := ∀ b l, ρ b = some l -> ρ' b = some l
theorem Ren.le_refl (ρ : Ren) : ρ.le ρ := fun _ _ h => h
theorem Ren.le.trans {a b c : Ren} (h : a.le b) (k : b.le c) : a.le c := fun x l e => k x l (h x l e)
mutual
inductive VRel (ρ : Ren) : Value -> Value -> Prop
 | bool (b : Bool) : VRel ρ (.bool b) (.bool b)
 | int (k : IntKind) (n : Int) : VRel ρ (.int k n) (.int k n)
 | string (s : ByteArray) : VRel ρ (.string s) (.string s)
 | ptrNil : VRel ρ (.pointer none) (.pointer none)
 | ptr {b o : Nat} {l : Loc} (h : ρ b = some l) : VRel ρ (.pointer (some ⟨b, o, none⟩)) (.pointer (some ⟨l.b, l.d + o, none⟩))
 | sliceNil : VRel ρ (.slice none 0 0) (.slice none 0 0)
 | slice0 (a a' : Addr) : VRel ρ (.slice (some a) 0 0) (.slice (some a') 0 0)
 | slice {b o len cap cap' : Nat} {l : Loc} (h : ρ b = some l) (hc : cap <= cap') (hb : l.d + o + cap' * l.es <= l.sz) :
   VRel ρ (.slice (some ⟨b, o, none⟩) len cap) (.slice (some ⟨l.b, l.d + o, none⟩) len cap')
 | mapNil : VRel ρ (.map none) (.map none)
 | map {r : Nat} {l : Loc} (h : ρ r = some l) : VRel ρ (.map (some r)) (.map (some l.b))
 | func (f : FuncId) {a a' c c' : Array Value} (h1 : VsRel ρ a.toList a'.toList) (h2 : VsRel ρ c.toList c'.toList) : VRel ρ (.func (.func f) a c) (.func (.func f) a' c')
 | yield {r : Nat} {l : Loc} {a a' c c' : Array Value} (h : ρ r = some l) (h1 : VsRel ρ a.toList a'.toList) (h2 : VsRel ρ c.toList c'.toList) :
   VRel ρ (.func (.yield r) a c) (.func (.yield l.b) a' c')
 | nilFunc : VRel ρ .nilFunc .nilFunc
 | nilIface : VRel ρ .nilIface .nilIface
 | iface (t : TypeId) {v v' : Value} (h : VRel ρ v v') : VRel ρ (.iface t v) (.iface t v')
 | agg {a a' : Array Value} (h : VsRel ρ a.toList a'.toList) : VRel ρ (.agg a) (.agg a')
 | tuple {a a' : Array Value} (h : VsRel ρ a.toList a'.toList) : VRel ρ (.tuple a) (.tuple a')
inductive VsRel (ρ : Ren) : List Value -> List Value -> Prop
 | nil : VsRel ρ [] []
 | cons {v v' : Value} {l l' : List Value} (h : VRel ρ v v') (t : VsRel ρ l l') : VsRel ρ (v :: l) (v' :: l')
end
mutual
theorem VRel.mono {ρ ρ' : Ren} (hle : ρ.le ρ') : ∀ {v v' : Value}, VRel ρ v v' -> VRel ρ' v v'
 | _, _, .bool b => .bool b
 | _, _, .int k n => .int k n
 | _, _, .string s => .string s
 | _, _, .ptrNil => .ptrNil
 | _, _, .ptr h => .ptr (hle _ _ h)
 | _, _, .sliceNil => .sliceNil
 | _, _, .slice0 a a' => .slice0 a a'
 | _, _, .slice h hc hb => .slice (hle _ _ h) hc hb
 | _, _, .mapNil => .mapNil
 | _, _, .map h => .map (hle _ _ h)
 | _, _, .func f h1 h2 => .func f (VsRel.mono hle h1) (VsRel.mono hle h2)
 | _, _, .yield h h1 h2 => .yield (hle _ _ h) (VsRel.mono hle h1) (VsRel.mono hle h2)
 | _, _, .nilFunc => .nilFunc
 | _, _, .nilIface => .nilIface
 | _, _, .iface t h => .iface t (VRel.mono hle h)
 | _, _, .agg h => .agg (VsRel.mono hle h)
 | _, _, .tuple h => .tuple (VsRel.mono hle h)
theorem VsRel.mono {ρ ρ' : Ren} (hle : ρ.le ρ') : ∀ {l l' : List Value}, VsRel ρ l l' -> VsRel ρ' l l'
 | _, _, .nil => .nil
 | _, _, .cons h t => .cons (VRel.mono hle h) (VsRel.mono hle t)
end
section vs
variable {ρ : Ren}
theorem VsRel.length {l l' : List Value} (h : VsRel ρ l l') : l.length = l'.length := by
 induction l generalizing l' with
 | nil => cases h; rfl
 | cons v l ih => cases h with | cons h t => simp [ih t]
theorem VsRel.append {a a' c c' : List Value} (h : VsRel ρ a a') (k : VsRel ρ c c') : VsRel ρ (a ++ c) (a' ++ c') := by
 induction a generalizing a' with
 | nil => cases h; exact k
 | cons v l ih => cases h with | cons h t => exact .cons h (ih t)
theorem VsRel.get {l l' : List Value} (h : VsRel ρ l l') {i : Nat} {v : Value} (hv : l[i]? = some v) : ∃ v', l'[i]? = some v' /\ VRel ρ v v' := by
 induction l generalizing l' i with
 | nil => simp at hv
 | cons x l ih =>
  cases h with
  | cons h t =>
   cases i with
   | zero => simp at hv; subst hv; exact ⟨_, by simp, h⟩
   | succ i => simp at hv; obtain ⟨v', e, r⟩ := ih t hv; exact ⟨v', by simpa using e, r⟩
theorem VsRel.of_get {l l' : List Value} (hl : l.length = l'.length) (h : ∀ (i : Nat) (v : Value), l[i]? = some v -> ∃ v', l'[i]? = some v' /\ VRel ρ v v') : VsRel ρ l l' := by
 induction l generalizing l' with
 | nil => cases l' with | nil => exact .nil | cons _ _ => simp at hl
 | cons x l ih =>
  cases l' with
  | nil => simp at hl
  | cons y l' =>
   obtain ⟨v', e, r⟩ := h 0 x rfl
   simp at e; subst e
   refine .cons r (ih (by simpa using hl) fun i v hv => ?_)
   obtain ⟨v', e, r⟩ := h (i + 1) v (by simpa using hv)
   exact ⟨v', by simpa using e, r⟩
theorem VsRel.take {l l' : List Value} (h : VsRel ρ l l') (n : Nat) : VsRel ρ (l.take n) (l'.take n) := by
 induction l generalizing l' n with
 | nil => cases h; cases n <;> exact .nil
 | cons v l ih => cases h with | cons h t => cases n with
  | zero => exact .nil
  | succ n => exact .cons h (ih t n)
theorem VsRel.drop {l l' : List Value} (h : VsRel ρ l l') (n : Nat) : VsRel ρ (l.drop n) (l'.drop n) := by
 induction l generalizing l' n with
 | nil => cases h; cases n <;> exact .nil
 | cons v l ih => cases h with | cons h t => cases n with
  | zero => exact .cons h t
  | succ n => exact ih t n
theorem VRel.cells {v v' : Value} (h : VRel ρ v v') : VsRel ρ (cellsOf v) v'.cells.toList := by
 cases h <;> first | exact .cons (by constructor <;> assumption) .nil | skip
 all_goals first | assumption | exact .cons (.slice0 _ _) .nil
theorem VRel.cellVal {v v' : Value} (h : VRel ρ v v') : cellVal v = cellVal v' := by
 cases h <;> rfl
end vs
open Go.RowKit (Below)
def TRel (ρ : Ren) (nt : Nat) (tm : Tr Value) (a : Array Value) : Prop :=
 a.size = nt /\ ∀ i v, tm.get i = some v -> ∃ v', a[i]? = some v' /\ VRel ρ v v'
def EsRel (ρ : Ren) : List MapEntry -> List MapEntry -> Prop
 | [], [] => True
 | e :: r, e' :: r' => VRel ρ e.key e'.key /\ VRel ρ e.val e'.val /\ e.born = e'.born /\ EsRel ρ r r'
 | _, _ => False
structure LRel (ρ : Ren) (al : ALoop) (lo : Loop) : Prop where
 state : lo.state = al.state
 pending : lo.pending = al.pending
 fn : lo.fn = al.fn
 tm : TRel ρ al.nt al.tm lo.tmps
 params : lo.params.toList = al.params
 assign : lo.assign = al.assign
 body : lo.body = al.body
 defers : ∃ l, ρ al.defers = some l /\ lo.defers = l.b
 ok : codeOk al.assign = true /\ codeOk al.body = true
structure CRel (ρ : Ren) (l : Loc) (c : List Value) (es : Nat) (c' : Array Value) (lo hi : Nat) : Prop where
 es : l.es = es
 size : c'.size = l.sz
 fits : l.d + c.length <= l.sz
 cell : ∀ (i : Nat) (v : Value), c[i]? = some v -> ∃ v', c'[l.d + i]? = some v' /\ VRel ρ v v'
 warm : ∀ i, i < l.sz -> ¬ (lo <= i /\ i < hi)
def ORel (ρ : Ren) (l : Loc) (o : AObj) (co : Option Obj) : Prop :=
 match o with
 | .cells c es _ _ => ∃ c' elem lo hi, co = some (.cells c' elem (lo, hi)) /\ CRel ρ l c es c' lo hi
 | .map es clock => ∃ es', co = some (.map es' clock) /\ EsRel ρ es es'.toList
 | .loop al => ∃ lo, co = some (.loop lo) /\ LRel ρ al lo
 | .defl t => co = some (.deferred (if t then none else some []))
 | .iter s p => co = some (.stringIter s p)
 | .dead => True
def shareOk (o o' : AObj) (l l' : Loc) : Prop :=
 match o, o' with
 | .cells _ _ f p, .cells _ _ f' p' => f = f' /\ l.d + p' = l'.d + p
 | .dead, _ => True
 | _, .dead => True
 | _, _ => False
def memOk (st : St) (b f : Nat) : Prop :=
 match st.fm.get f with
 | none => b = f
 | some ms => b ∈ ms
structure WF (st : St) : Prop where
 lt : ∀ b o, st.get b = some o -> b < st.n
 fam : ∀ b c e f p, st.get b = some (.cells c e f p) -> f < st.n /\ memOk st b f
 fml : ∀ f ms, st.fm.get f = some ms -> f < st.n
structure WRel (w0 : World) (N0 : Nat) (G : Nat -> Prop) (ρ : Ren) (st : St) (w : World) : Prop where
 wf : WF st
 below : Below N0 w0 w
 big : N0 <= w.heap.size
 gho : ∀ b, G b -> ρ b = none /\ b < st.n
 dom : ∀ b l, ρ b = some l -> b < st.n /\ N0 <= l.b /\ l.b < w.heap.size
 obj : ∀ b l o, ρ b = some l -> st.get b = some o -> ORel ρ l o w.heap[l.b]?
 sep : ∀ b b' l l' o o', ρ b = some l -> ρ b' = some l' -> l.b = l'.b -> st.get b = some o -> st.get b' = some o' -> b ≠ b' -> shareOk o o' l l'
theorem TRel.mono {ρ ρ' : Ren} (h : ρ.le ρ') {nt : Nat} {tm : Tr Value} {a : Array Value} (k : TRel ρ nt tm a) : TRel ρ' nt tm a :=
 ⟨k.1, fun i v hv => let ⟨v', e, r⟩ := k.2 i v hv; ⟨v', e, r.mono h⟩⟩
theorem EsRel.mono {ρ ρ' : Ren} (h : ρ.le ρ') : ∀ {a b : List MapEntry}, EsRel ρ a b -> EsRel ρ' a b
 | [], [], _ => trivial
 | _ :: _, _ :: _, ⟨k, v, e, r⟩ => ⟨k.mono h, v.mono h, e, EsRel.mono h r⟩
 | [], _ :: _, k => k.elim
 | _ :: _, [], k => k.elim
theorem LRel.mono {ρ ρ' : Ren} (h : ρ.le ρ') {al : ALoop} {lo : Loop} (k : LRel ρ al lo) : LRel ρ' al lo :=
 ⟨k.state, k.pending, k.fn, k.tm.mono h, k.params, k.assign, k.body, let ⟨l, e, r⟩ := k.defers; ⟨l, h _ _ e, r⟩, k.ok⟩
theorem CRel.mono {ρ ρ' : Ren} (h : ρ.le ρ') {l : Loc} {c : List Value} {es : Nat} {c' : Array Value} {lo hi : Nat} (k : CRel ρ l c es c' lo hi) : CRel ρ' l c es c' lo hi :=
 ⟨k.es, k.size, k.fits, fun i v hv => let ⟨v', e, r⟩ := k.cell i v hv; ⟨v', e, r.mono h⟩, k.warm⟩
theorem ORel.mono {ρ ρ' : Ren} (h : ρ.le ρ') {l : Loc} {o : AObj} {co : Option Obj} (k : ORel ρ l o co) : ORel ρ' l o co := by
 cases o with
 | cells c es f p => obtain ⟨c', elem, lo, hi, e, r⟩ := k; exact ⟨c', elem, lo, hi, e, r.mono h⟩
 | map es clock => obtain ⟨es', e, r⟩ := k; exact ⟨es', e, r.mono h⟩
 | loop al => obtain ⟨lo, e, r⟩ := k; exact ⟨lo, e, r.mono h⟩
 | defl t => exact k
 | iter s p => exact k
 | dead => trivial
def Ren.add (ρ : Ren) (b : Nat) (l : Loc) : Ren := fun x => if x = b then some l else ρ x
theorem Ren.le_add {ρ : Ren} {b : Nat} {l : Loc} (h : ρ b = none) : ρ.le (ρ.add b l) := by
 intro x l' e
 unfold Ren.add
 by_cases hx : x = b
 ·subst hx; rw [h] at e; cases e
 ·rw [if_neg hx]; exact e
theorem Ren.add_same (ρ : Ren) (b : Nat) (l : Loc) : (ρ.add b l) b = some l := if_pos rfl
theorem Ren.add_ne (ρ : Ren) {b x : Nat} (l : Loc) (h : x ≠ b) : (ρ.add b l) x = ρ x := if_neg h
theorem St.get_new (st : St) (o : AObj) (b : Nat) : (st.new o).get b = if b = st.n then some o else st.get b := Tr.get_set _ _ _ _
theorem St.get_put (st : St) (x : Nat) (o : AObj) (b : Nat) : (st.put x o).get b = if b = x then some o else st.get b := Tr.get_set _ _ _ _
def ownFam (st : St) : AObj -> Prop
 | .cells _ _ f _ => f = st.n
 | _ => True
theorem WF.new {st : St} (h : WF st) {o : AObj} (ho : ownFam st o) : WF (st.new o) := by
 have hfn : st.fm.get st.n = none := by
  cases e : st.fm.get st.n with
  | none => rfl
  | some ms => exact absurd (h.fml _ _ e) (Nat.lt_irrefl _)
 refine ⟨fun b o' hb => ?_, fun b c e f p hb => ?_, fun f ms hf => Nat.lt_succ_of_lt (h.fml f ms hf)⟩
 ·rw [St.get_new] at hb
  show b < st.n + 1
  by_cases hbn : b = st.n
  ·omega
  ·rw [if_neg hbn] at hb; exact Nat.lt_succ_of_lt (h.lt _ _ hb)
 ·rw [St.get_new] at hb
  show f < st.n + 1 /\ memOk (st.new o) b f
  by_cases hbn : b = st.n
  ·rw [if_pos hbn] at hb
   cases hb
   have : f = st.n := ho
   subst this
   refine ⟨Nat.lt_succ_self _, ?_⟩
   show match st.fm.get st.n with | none => b = st.n | some ms => b ∈ ms
   rw [hfn]; exact hbn
  ·rw [if_neg hbn] at hb
   have := h.fam _ _ _ _ _ hb
   exact ⟨Nat.lt_succ_of_lt this.1, this.2⟩
section
variable {w0 : World} {N0 : Nat} {G : Nat -> Prop} {ρ : Ren} {st : St} {w : World}
theorem WRel.none_at (h : WRel w0 N0 G ρ st w) : ρ st.n = none := by
 cases e : ρ st.n with
 | none => rfl
 | some l => exact absurd (h.dom _ _ e).1 (Nat.lt_irrefl _)
theorem WRel.new (h : WRel w0 N0 G ρ st w) {o : AObj} {co : Obj} {l : Loc} (hl : l.b = w.heap.size) (ho : ownFam st o) (hr : ORel (ρ.add st.n l) l o (some co)) :
  WRel w0 N0 G (ρ.add st.n l) (st.new o) { w with heap := w.heap.push co } := by
 have hle := Ren.le_add (l := l) h.none_at
 have hpush : ∀ k, k < w.heap.size -> (w.heap.push co)[k]? = w.heap[k]? := fun k hk => by
  rw [Array.getElem?_push, if_neg (by omega)]
 refine ⟨h.wf.new ho, ?_, ?_, ?_, ?_, ?_, ?_⟩
 ·refine h.below.trans ⟨rfl, rfl, rfl, by simp, fun k hk => hpush k (by have := h.big; omega)⟩
 ·show N0 <= (w.heap.push co).size
  have := h.big
  simp; omega
 ·intro x hx
  have := h.gho x hx
  exact ⟨by rw [Ren.add_ne _ _ (by omega)]; exact this.1, Nat.lt_succ_of_lt this.2⟩
 ·intro b l' hb
  show b < st.n + 1 /\ N0 <= l'.b /\ l'.b < (w.heap.push co).size
  by_cases e : b = st.n
  ·subst e
   rw [Ren.add_same] at hb
   cases hb
   have := h.big
   simp; omega
  ·rw [Ren.add_ne _ _ e] at hb
   have := h.dom _ _ hb
   simp; omega
 ·intro b l' o' hb hg
  show ORel _ l' o' (w.heap.push co)[l'.b]?
  rw [St.get_new] at hg
  by_cases e : b = st.n
  ·subst e
   rw [Ren.add_same] at hb
   cases hb
   rw [if_pos rfl] at hg
   cases hg
   rw [hl, Array.getElem?_push_size]
   exact hr
  ·rw [Ren.add_ne _ _ e] at hb
   rw [if_neg e] at hg
   rw [hpush _ (h.dom _ _ hb).2.2]
   exact (h.obj _ _ _ hb hg).mono hle
 ·intro b b' l1 l2 o1 o2 h1 h2 he g1 g2 hne
  rw [St.get_new] at g1 g2
  by_cases e1 : b = st.n
  ·by_cases e2 : b' = st.n
   ·exact absurd (e1.trans e2.symm) hne
   ·subst e1
    rw [Ren.add_same] at h1
    cases h1
    rw [Ren.add_ne _ _ e2] at h2
    have := (h.dom _ _ h2).2.2
    omega
  ·by_cases e2 : b' = st.n
   ·subst e2
    rw [Ren.add_same] at h2
    cases h2
    rw [Ren.add_ne _ _ e1] at h1
    have := (h.dom _ _ h1).2.2
    omega
   ·rw [Ren.add_ne _ _ e1] at h1
    rw [Ren.add_ne _ _ e2] at h2
    rw [if_neg e1] at g1
    rw [if_neg e2] at g2
    exact h.sep _ _ _ _ _ _ h1 h2 he g1 g2 hne
theorem WRel.junk (h : WRel w0 N0 G ρ st w) {w' : World} (hb : Below w.heap.size w w') : WRel w0 N0 G ρ st w' := by
 refine ⟨h.wf, h.below.trans (hb.mono h.big), Nat.le_trans h.big hb.size, h.gho, fun b l e => ?_, fun b l o e g => ?_, h.sep⟩
 ·have := h.dom _ _ e
  have := hb.size
  omega
 ·rw [hb.block _ (h.dom _ _ e).2.2]
  exact h.obj _ _ _ e g
theorem readCells_eq {b o n : Nat} {c : List Value} (h : readCells st b o n = some c) :
  ∃ c0 es f p, st.get b = some (.cells c0 es f p) /\ o + n <= c0.length /\ c = (c0.drop o).take n := by
 unfold readCells at h
 split at h
 ·rename_i c0 es f p hg
  split at h
  ·rename_i hle
   refine ⟨c0, es, f, p, hg, ?_, ?_⟩
   ·exact Nat.le_of_ble_eq_true hle
   ·simpa using h.symm
  ·cases h
 ·cases h
theorem readCells_length {b o n : Nat} {c : List Value} (h : readCells st b o n = some c) : c.length = n := by
 obtain ⟨c0, es, f, p, _, hle, rfl⟩ := readCells_eq h
 simp; omega
theorem run_load {P : Program} {w : World} {a : Addr} {v : Value} (h : w.cell? a = some v) : (load a).run P w = .ok v w := by
 simp [load, Sem.run, h]
theorem rbo {α β : Type} {P : Program} {w w' : World} {s : Sem α} {a : α} (k : α -> Sem β) (h : s.run P w = .ok a w') : (s >>= k).run P w = (k a).run P w' := by
 show (s.bind k).run P w = _
 induction s generalizing w with
 | pure x => simp only [Sem.run] at h; cases h; rfl
 | load m ad kk ih =>
  simp only [Sem.bind, Sem.run] at h ⊢
  cases e : w.cell? ad with
  | some v => rw [e] at h; exact ih v h
  | none =>
   rw [e] at h
   simp only at h ⊢
   cases e2 : w.farLoad P ad (m == .atomic) with
   | ok r => rw [e2] at h; exact ih r.1 h
   | error x => rw [e2] at h; cases h
 | store m ad v kk ih =>
  cases v with
  | agg x => simp [Sem.run] at h
  | tuple x => simp [Sem.run] at h
  | _ =>
   simp only [Sem.bind, Sem.run] at h ⊢
   cases e : w.cell? ad with
   | some v =>
    rw [e] at h
    simp only at h ⊢
    split at h
    ·cases h
    ·rename_i hf; rw [if_neg hf]; exact ih h
   | none =>
    rw [e] at h
    simp only at h ⊢
    cases e2 : w.farStore P ad _ (m == .atomic) with
    | ok r => rw [e2] at h; exact ih h
    | error x => rw [e2] at h; cases h
 | new ob kk ih => simp only [Sem.bind, Sem.run] at h ⊢; exact ih _ h
 | shape r kk ih => simp only [Sem.bind, Sem.run] at h ⊢; exact ih _ h
 | freeze ad n kk ih => simp only [Sem.bind, Sem.run] at h ⊢; exact ih h
 | frozen ad kk ih => simp only [Sem.bind, Sem.run] at h ⊢; exact ih _ h
 | getObj r kk ih =>
  simp only [Sem.bind, Sem.run] at h ⊢
  split at h
  ·cases h
  ·exact ih _ h
  ·cases h
 | setObj r ob kk ih =>
  simp only [Sem.bind, Sem.run] at h ⊢
  split at h
  ·cases h
  ·exact ih h
  ·cases h
 | choose q kk ih =>
  simp only [Sem.bind, Sem.run] at h ⊢
  split at h
  ·rename_i hq; rw [if_pos hq]; exact ih _ h
  ·rename_i hq; rw [if_neg hq]; exact ih _ h
 | sys c kk ih => simp only [Sem.bind, Sem.run] at h ⊢; exact ih _ h
 | program kk ih => simp only [Sem.bind, Sem.run] at h ⊢; exact ih _ h
 | mark m kk ih => simp only [Sem.bind, Sem.run] at h ⊢; exact ih h
 | halt x => simp [Sem.run] at h
theorem cell_of {w : World} {b : Nat} {c : Array Value} {e : TypeId} {fz : Nat × Nat} (h : w.heap[b]? = some (.cells c e fz)) (k : Nat) : w.cell? ⟨b, k, none⟩ = c[k]? := by
 simp [World.cell?, h]
theorem add_none (b o n : Nat) : (⟨b, o, none⟩ : Addr).add n = ⟨b, o + n, none⟩ := by
 unfold Addr.add
 split
 ·rename_i h; subst h; rfl
 ·rfl
theorem run_loadCellsFrom {P : Program} {w : World} {b o : Nat} {c : Array Value} {e : TypeId} {fz : Nat × Nat} (h : w.heap[b]? = some (.cells c e fz)) :
  ∀ (n i : Nat) (acc : Array Value), o + i + n <= c.size -> (loadCellsFrom ⟨b, o, none⟩ i n acc).run P w = .ok ⟨acc.toList ++ (c.toList.drop (o + i)).take n⟩ w := by
 intro n
 induction n with
 | zero => intro i acc _; simp [loadCellsFrom, pure]
 | succ n ih =>
  intro i acc hle
  have hlt : o + i < c.size := by omega
  have hc : w.cell? ((⟨b, o, none⟩ : Addr).add i) = some c[o + i] := by rw [add_none, cell_of h]; exact Array.getElem?_eq_getElem hlt
  rw [loadCellsFrom, rbo _ (run_load hc), ih (i + 1) (acc.push c[o + i]) (by omega)]
  have hd : c.toList.drop (o + i) = c[o + i] :: c.toList.drop (o + (i + 1)) := by
   rw [List.drop_eq_getElem_cons (by simpa using hlt)]; rfl
  rw [hd]
  simp
theorem run_loadCells {P : Program} {w : World} {b o n : Nat} {c : Array Value} {e : TypeId} {fz : Nat × Nat} (h : w.heap[b]? = some (.cells c e fz)) (hle : o + n <= c.size) :
  (loadCells ⟨b, o, none⟩ n).run P w = .ok ⟨(c.toList.drop o).take n⟩ w := by
 have := run_loadCellsFrom (P := P) (o := o) h n 0 #[] (by omega)
 simpa [loadCells] using this
theorem CRel.slice {l : Loc} {c : List Value} {es : Nat} {c' : Array Value} {lo hi : Nat} (k : CRel ρ l c es c' lo hi) {o n : Nat} (hle : o + n <= c.length) :
  VsRel ρ ((c.drop o).take n) ((c'.toList.drop (l.d + o)).take n) := by
 have hsz := k.size
 have hf := k.fits
 refine VsRel.of_get (by simp; omega) fun i v hv => ?_
 rw [List.getElem?_take] at hv ⊢
 split at hv
 ·rename_i hi'
  rw [if_pos hi']
  rw [List.getElem?_drop] at hv ⊢
  obtain ⟨v', e, r⟩ := k.cell _ _ hv
  refine ⟨v', ?_, r⟩
  rw [Array.getElem?_toList, <- e]
  congr 1
  omega
 ·cases hv
theorem WRel.read (h : WRel w0 N0 G ρ st w) {b o n : Nat} {c : List Value} {l : Loc} (hb : ρ b = some l) (hr : readCells st b o n = some c) (P : Program) :
  ∃ c', (loadCells ⟨l.b, l.d + o, none⟩ n).run P w = .ok c' w /\ VsRel ρ c c'.toList := by
 obtain ⟨c0, es, f, p, hg, hle, rfl⟩ := readCells_eq hr
 obtain ⟨c', elem, lo, hi, e, k⟩ := h.obj _ _ _ hb hg
 have hsz := k.size
 have hf := k.fits
 refine ⟨_, run_loadCells e (by omega), ?_⟩
 exact k.slice hle
theorem listSet_length : ∀ (c : List Value) (n : Nat) (vs : List Value), (listSet c n vs).length = c.length := by
 intro c
 induction c with
 | nil => intro n vs; cases vs <;> rfl
 | cons x c ih =>
  intro n vs
  cases vs with
  | nil => rfl
  | cons v vs => cases n <;> simp [listSet, ih]
theorem listSet_get : ∀ (c : List Value) (n : Nat) (vs : List Value) (i : Nat), n + vs.length <= c.length -> (listSet c n vs)[i]? = if n <= i /\ i < n + vs.length then vs[i - n]? else c[i]? := by
 intro c
 induction c with
 | nil =>
  intro n vs i h
  cases vs with
  | nil => simp only [listSet, List.length_nil]; rw [if_neg (by omega)]
  | cons v vs => simp at h
 | cons x c ih =>
  intro n vs i h
  cases vs with
  | nil => simp only [listSet, List.length_nil]; rw [if_neg (by omega)]
  | cons v vs =>
   simp only [List.length_cons] at h ⊢
   cases n with
   | zero =>
    cases i with
    | zero => simp [listSet]
    | succ i =>
     simp only [listSet, List.getElem?_cons_succ]
     rw [ih 0 vs i (by omega)]
     by_cases hi : i < vs.length
     ·rw [if_pos (by omega), if_pos (by omega)]; simp
     ·rw [if_neg (by omega), if_neg (by omega)]
   | succ n =>
    cases i with
    | zero => simp [listSet]
    | succ i =>
     simp only [listSet, List.getElem?_cons_succ]
     rw [ih n (v :: vs) i (by simp; omega)]
     simp only [List.length_cons]
     by_cases hi : n <= i /\ i < n + (vs.length + 1)
     ·rw [if_pos hi, if_pos (by omega), show i + 1 - (n + 1) = i - n from by omega]
     ·rw [if_neg hi, if_neg (by omega)]
structure Stored (w w' : World) (b : Nat) (c : Array Value) (e : TypeId) (fz : Nat × Nat) (o : Nat) (vs : List Value) : Prop where
 os : w'.os = w.os
 tape : w'.tape = w.tape
 output : w'.output = w.output
 size : w'.heap.size = w.heap.size
 other : ∀ k, k ≠ b -> w'.heap[k]? = w.heap[k]?
 here : ∃ c', w'.heap[b]? = some (.cells c' e fz) /\ c'.size = c.size /\ ∀ i : Nat, c'[i]? = if o <= i /\ i < o + vs.length then vs[i - o]? else c[i]?
theorem run_store1 {P : Program} {w : World} {b o : Nat} {v : Value} {c : Array Value} {e : TypeId} {lo hi : Nat} (h : w.heap[b]? = some (.cells c e (lo, hi))) (ho : o < c.size) (hw : ¬ (lo <= o /\ o < hi))
  (hv : cellVal v = true) : (store ⟨b, o, none⟩ v).run P w = .ok () (w.setCell ⟨b, o, none⟩ v) := by
 have hc : w.cell? ⟨b, o, none⟩ = some c[o] := by rw [cell_of h]; exact Array.getElem?_eq_getElem ho
 have hf : w.frozen? ⟨b, o, none⟩ = false := by
  simp only [World.frozen?, h]
  cases hx : (decide (lo <= o) && decide (o < hi)) with
  | false => rfl
  | true => simp at hx; exact absurd hx hw
 cases v <;> first | (simp [cellVal] at hv; done) | simp [store, Sem.run, hc, hf]
theorem setCell_at {w : World} {b o : Nat} {v : Value} {c : Array Value} {e : TypeId} {fz : Nat × Nat} (h : w.heap[b]? = some (.cells c e fz)) :
  (w.setCell ⟨b, o, none⟩ v).heap[b]? = some (.cells (c.setIfInBounds o v) e fz) /\ (∀ k, k ≠ b -> (w.setCell ⟨b, o, none⟩ v).heap[k]? = w.heap[k]?) /\ (w.setCell ⟨b, o, none⟩ v).heap.size = w.heap.size := by
 refine ⟨?_, fun k hk => Below.heap_setCell _ _ _ _ hk, by simp [World.setCell]⟩
 simp only [World.setCell, Array.getElem?_modify, h]
 simp
theorem run_storeCells {P : Program} : ∀ (vs : List Value) (w : World) (b o i : Nat) (c : Array Value) (e : TypeId) (lo hi : Nat), w.heap[b]? = some (.cells c e (lo, hi)) -> o + i + vs.length <= c.size ->
  (∀ j, o + i <= j -> j < o + i + vs.length -> ¬ (lo <= j /\ j < hi)) -> (∀ v ∈ vs, cellVal v = true) ->
  ∃ w', (storeCells ⟨b, o, none⟩ vs i).run P w = .ok () w' /\ Stored w w' b c e (lo, hi) (o + i) vs := by
 intro vs
 induction vs with
 | nil =>
  intro w b o i c e lo hi h _ _ _
  refine ⟨w, by simp [storeCells, pure], rfl, rfl, rfl, rfl, fun _ _ => rfl, c, h, rfl, fun j => ?_⟩
  simp only [List.length_nil]
  rw [if_neg (by omega)]
 | cons v vs ih =>
  intro w b o i c e lo hi h hle hwarm hcv
  simp only [List.length_cons] at hle hwarm
  have h1 := run_store1 (P := P) (v := v) h (o := o + i) (by omega) (hwarm _ (by omega) (by omega)) (hcv v (by simp))
  obtain ⟨s1, s2, s3⟩ := setCell_at (o := o + i) (v := v) h
  obtain ⟨w', hr, hs⟩ := ih (w.setCell ⟨b, o + i, none⟩ v) b o (i + 1) _ e lo hi s1 (by simp; omega) (fun j h1 h2 => hwarm j (by omega) (by omega)) (fun x hx => hcv x (by simp [hx]))
  refine ⟨w', ?_, ?_⟩
  ·rw [storeCells, add_none, rbo _ h1]; exact hr
  ·obtain ⟨c', e1, e2, e3⟩ := hs.here
   refine ⟨hs.os, hs.tape, hs.output, hs.size.trans s3, fun k hk => (hs.other k hk).trans (s2 k hk), c', e1, by simpa using e2, fun j => ?_⟩
   rw [e3]
   simp only [List.length_cons]
   by_cases hj : j = o + i
   ·subst hj
    rw [if_neg (by omega), if_pos (by omega), Nat.sub_self, Array.getElem?_setIfInBounds_self_of_lt (by omega)]
    rfl
   ·by_cases hj2 : o + (i + 1) <= j /\ j < o + (i + 1) + vs.length
    ·rw [if_pos hj2, if_pos (by omega), show j - (o + i) = (j - (o + (i + 1))) + 1 from by omega]
     rfl
    ·rw [if_neg hj2, if_neg (by omega), Array.getElem?_setIfInBounds_ne (by omega)]
end
open Go.RowKit (Below)
theorem killIn_spec (b lo hi : Nat) : ∀ (ms : List Nat) (hp : Tr AObj),
  (∀ x, (killIn b lo hi ms hp).1.get x = hp.get x ∨ ((killIn b lo hi ms hp).1.get x = some .dead /\ x ≠ b /\ ∃ c e f p, hp.get x = some (.cells c e f p) /\ overlaps p c.length lo hi = true)) /\
  (∀ x, x ∈ ms -> x ≠ b -> ∀ c e f p, (killIn b lo hi ms hp).1.get x = some (.cells c e f p) -> overlaps p c.length lo hi = false) /\
  (∀ x, x ∈ ms -> x ∈ (killIn b lo hi ms hp).2 ∨ (killIn b lo hi ms hp).1.get x = some .dead) := by
 intro ms
 induction ms with
 | nil => intro hp; exact ⟨fun _ => .inl rfl, fun _ h => by simp at h, fun _ h => by simp at h⟩
 | cons m ms ih =>
  intro hp
  have keep : ∀ (hm : m ≠ b -> ∀ c e f p, hp.get m = some (.cells c e f p) -> overlaps p c.length lo hi = false),
    (∀ x, (killIn b lo hi ms hp).1.get x = hp.get x ∨ ((killIn b lo hi ms hp).1.get x = some .dead /\ x ≠ b /\ ∃ c e f p, hp.get x = some (.cells c e f p) /\ overlaps p c.length lo hi = true)) /\
    (∀ x, x ∈ m :: ms -> x ≠ b -> ∀ c e f p, (killIn b lo hi ms hp).1.get x = some (.cells c e f p) -> overlaps p c.length lo hi = false) /\
    (∀ x, x ∈ m :: ms -> x ∈ m :: (killIn b lo hi ms hp).2 ∨ (killIn b lo hi ms hp).1.get x = some .dead) := by
   intro hm
   obtain ⟨i1, i2, i3⟩ := ih hp
   refine ⟨i1, fun x hx hne c e f p hg => ?_, fun x hx => ?_⟩
   ·rcases List.mem_cons.1 hx with rfl | hx
    ·rcases i1 x with h | ⟨h, _⟩
     ·exact hm hne c e f p (h ▸ hg)
     ·rw [h] at hg; cases hg
    ·exact i2 x hx hne c e f p hg
   ·rcases List.mem_cons.1 hx with rfl | hx
    ·exact .inl (by simp)
    ·exact (i3 x hx).imp (fun h => by simp [h]) id
  unfold killIn
  cases hmb : Nat.beq m b with
  | true =>
   simp only
   have : m = b := Nat.eq_of_beq_eq_true hmb
   exact keep fun h => absurd this h
  | false =>
   have hne : m ≠ b := Nat.ne_of_beq_eq_false hmb
   simp only
   cases hg : hp.get m with
   | none => simp only; exact keep fun _ c e f p h => by rw [hg] at h; cases h
   | some o =>
    cases o with
    | cells c e f p =>
     simp only
     cases ho : overlaps p c.length lo hi with
     | false =>
      simp only
      exact keep fun _ c' e' f' p' h => by rw [hg] at h; cases h; exact ho
     | true =>
      simp only
      obtain ⟨i1, i2, i3⟩ := ih (hp.set m .dead)
      have hdead : (killIn b lo hi ms (hp.set m .dead)).1.get m = some .dead := by
       rcases i1 m with h | ⟨h, _⟩
       ·rw [h, Tr.get_set, if_pos rfl]
       ·exact h
      refine ⟨fun x => ?_, fun x hx hnx c' e' f' p' hg' => ?_, fun x hx => ?_⟩
      ·by_cases hxm : x = m
       ·subst hxm; exact .inr ⟨hdead, hne, c, e, f, p, hg, ho⟩
       ·have hs : (hp.set m .dead).get x = hp.get x := by rw [Tr.get_set, if_neg hxm]
        have := i1 x
        rw [hs] at this
        exact this
      ·rcases List.mem_cons.1 hx with rfl | hx
       ·rw [hdead] at hg'; cases hg'
       ·exact i2 x hx hnx c' e' f' p' hg'
      ·rcases List.mem_cons.1 hx with rfl | hx
       ·exact .inr hdead
       ·exact i3 x hx
    | _ => simp only; exact keep fun _ c e f p h => by rw [hg] at h; cases h
section
variable {st : St} {fam b lo hi : Nat}
theorem St.kill_n : (st.kill fam b lo hi).n = st.n := by
 unfold St.kill; split <;> rfl
theorem St.kill_get (x : Nat) : (st.kill fam b lo hi).get x = st.get x ∨ ((st.kill fam b lo hi).get x = some .dead /\ x ≠ b /\ ∃ c e f p, st.get x = some (.cells c e f p) /\ overlaps p c.length lo hi = true) := by
 unfold St.kill
 split
 ·exact .inl rfl
 ·exact (killIn_spec b lo hi _ st.hp).1 x
theorem St.kill_self : (st.kill fam b lo hi).get b = st.get b := by
 rcases St.kill_get (st := st) (fam := fam) (b := b) (lo := lo) (hi := hi) b with h | ⟨_, h, _⟩
 ·exact h
 ·exact absurd rfl h
theorem St.kill_apart {ms : List Nat} (hfm : st.fm.get fam = some ms) {x : Nat} (hx : x ∈ ms) (hne : x ≠ b) {c : List Value} {e f p : Nat}
  (hg : (st.kill fam b lo hi).get x = some (.cells c e f p)) : overlaps p c.length lo hi = false := by
 unfold St.kill at hg
 rw [hfm] at hg
 exact (killIn_spec b lo hi ms st.hp).2.1 x hx hne c e f p hg
theorem St.kill_old {x : Nat} {o : AObj} (h : (st.kill fam b lo hi).get x = some o) : o = .dead ∨ st.get x = some o := by
 rcases St.kill_get (st := st) (fam := fam) (b := b) (lo := lo) (hi := hi) x with e | ⟨e, _⟩
 ·exact .inr (e ▸ h)
 ·rw [e] at h; cases h; exact .inl rfl
theorem St.kill_none (h : st.fm.get fam = none) : st.kill fam b lo hi = st := by
 unfold St.kill; rw [h]
theorem St.kill_some {ms : List Nat} (h : st.fm.get fam = some ms) : st.kill fam b lo hi = { st with hp := (killIn b lo hi ms st.hp).1, fm := st.fm.set fam (killIn b lo hi ms st.hp).2 } := by
 unfold St.kill; rw [h]
theorem WF.kill (h : WF st) : WF (st.kill fam b lo hi) := by
 cases hfm : st.fm.get fam with
 | none => rw [St.kill_none hfm]; exact h
 | some ms =>
  refine ⟨fun x o hx => ?_, fun x c e f p hx => ?_, fun f ms' hf => ?_⟩
  ·rw [St.kill_n]
   rcases St.kill_get (st := st) (fam := fam) (b := b) (lo := lo) (hi := hi) x with e | ⟨_, _, c, e', f, p, e, _⟩
   ·exact h.lt _ _ (e ▸ hx)
   ·exact h.lt _ _ e
  ·rcases St.kill_old hx with e' | e'
   ·cases e'
   ·have hf := h.fam _ _ _ _ _ e'
    refine ⟨by rw [St.kill_n]; exact hf.1, ?_⟩
    have hm := hf.2
    unfold memOk at hm ⊢
    rw [St.kill_some hfm] at hx ⊢
    simp only [Tr.get_set]
    by_cases hff : f = fam
    ·subst hff
     rw [if_pos rfl]
     rw [hfm] at hm
     rcases (killIn_spec b lo hi ms st.hp).2.2 x hm with h1 | h1
     ·exact h1
     ·exfalso
      have hx' : (killIn b lo hi ms st.hp).1.get x = some (.cells c e f p) := hx
      rw [h1] at hx'; cases hx'
    ·rw [if_neg hff]; exact hm
  ·rw [St.kill_n]
   rw [St.kill_some hfm] at hf
   simp only [Tr.get_set] at hf
   by_cases hff : f = fam
   ·subst hff; exact h.fml _ _ hfm
   ·rw [if_neg hff] at hf; exact h.fml _ _ hf
theorem overlaps_false {fo k lo hi : Nat} (h : overlaps fo k lo hi = false) : hi <= fo ∨ fo + k <= lo := by
 unfold overlaps at h
 rcases Nat.lt_or_ge fo hi with h1 | h1
 ·rcases Nat.lt_or_ge lo (fo + k) with h2 | h2
  ·rw [Nat.blt_eq.mpr h1, Nat.blt_eq.mpr h2] at h; cases h
  ·exact .inr h2
 ·exact .inl h1
theorem WF.put_row (h : WF st) {c c' : List Value} {e f p : Nat} (hg : st.get b = some (.cells c e f p)) : WF (st.put b (.cells c' e f p)) := by
 refine ⟨fun x o hx => ?_, fun x c1 e1 f1 p1 hx => ?_, h.fml⟩
 ·rw [St.get_put] at hx
  by_cases hxb : x = b
  ·subst hxb; exact h.lt _ _ hg
  ·rw [if_neg hxb] at hx; exact h.lt _ _ hx
 ·rw [St.get_put] at hx
  by_cases hxb : x = b
  ·subst hxb; rw [if_pos rfl] at hx; cases hx; exact h.fam _ _ _ _ _ hg
  ·rw [if_neg hxb] at hx; exact h.fam _ _ _ _ _ hx
end
section
variable {w0 : World} {N0 : Nat} {G : Nat -> Prop} {ρ : Ren} {st : St} {w : World}
theorem VsRel.allCell {vs vs' : List Value} (h : VsRel ρ vs vs') (hc : vs.all cellVal = true) : ∀ v ∈ vs', cellVal v = true := by
 induction vs generalizing vs' with
 | nil => cases h; intro v hv; simp at hv
 | cons x vs ih =>
  cases h with
  | cons h t =>
   simp only [List.all_cons, Bool.and_eq_true] at hc
   intro v hv
   rcases List.mem_cons.1 hv with rfl | hv
   ·rw [<- h.cellVal]; exact hc.1
   ·exact ih t hc.2 v hv
theorem writeCells_eq {b o : Nat} {vs : List Value} {st' : St} (h : writeCells st b o vs = some st') :
  ∃ c es f p, st.get b = some (.cells c es f p) /\ o + vs.length <= c.length /\ vs.all cellVal = true /\
   st' = (st.put b (.cells (listSet c o vs) es f p)).kill f b (p + o) (p + o + vs.length) := by
 unfold writeCells at h
 split at h
 ·rename_i c es f p hg
  split at h
  ·rename_i hb
   rw [Bool.and_eq_true] at hb
   exact ⟨c, es, f, p, hg, Nat.le_of_ble_eq_true hb.1, hb.2, by simpa using h.symm⟩
  ·cases h
 ·cases h
theorem WRel.write (h : WRel w0 N0 G ρ st w) {b o : Nat} {vs vs' : List Value} {st' : St} {l : Loc} (hb : ρ b = some l) (hw : writeCells st b o vs = some st') (hv : VsRel ρ vs vs') (P : Program) :
  ∃ w', (storeCells ⟨l.b, l.d + o, none⟩ vs').run P w = .ok () w' /\ WRel w0 N0 G ρ st' w' /\ st'.n = st.n := by
 obtain ⟨c, es, f, p, hg, hle, hcv, rfl⟩ := writeCells_eq hw
 obtain ⟨c', elem, lo, hi, e, k⟩ := h.obj _ _ _ hb hg
 have hlen := hv.length
 have hsz := k.size
 have hfit := k.fits
 obtain ⟨w', hr, hs⟩ := run_storeCells (P := P) vs' w l.b (l.d + o) 0 c' elem lo hi e (by omega) (fun j h1 h2 => k.warm j (by omega)) (hv.allCell hcv)
 obtain ⟨c'', e1, e2, e3⟩ := hs.here
 have hdom := h.dom _ _ hb
 have hbig := h.big
 have hsize := hs.size
 refine ⟨w', hr, ?_, by rw [St.kill_n]; rfl⟩
 refine ⟨(h.wf.put_row hg).kill, ?_, by omega, fun x hx => by rw [St.kill_n]; exact h.gho x hx, ?_, ?_, ?_⟩
 ·exact h.below.trans ⟨hs.os, hs.tape, hs.output, by omega, fun x hx => hs.other x (by omega)⟩
 ·intro x lx hx
  rw [St.kill_n]
  have := h.dom _ _ hx
  exact ⟨this.1, this.2.1, by omega⟩
 ·intro x lx ox hx hgx
  rcases St.kill_old hgx with rfl | hput
  ·trivial
  ·rw [St.get_put] at hput
   by_cases hxb : x = b
   ·subst hxb
    rw [if_pos rfl] at hput
    cases hput
    rw [hb] at hx
    cases hx
    refine ⟨c'', elem, lo, hi, e1, k.es, by omega, by rw [listSet_length]; exact hfit, fun i v hi' => ?_, k.warm⟩
    rw [listSet_get _ _ _ _ hle] at hi'
    rw [e3]
    by_cases hrange : o <= i /\ i < o + vs.length
    ·rw [if_pos hrange] at hi'
     obtain ⟨v', hv1, hv2⟩ := hv.get hi'
     refine ⟨v', ?_, hv2⟩
     rw [if_pos (by omega), <- hv1]
     congr 1
     omega
    ·rw [if_neg hrange] at hi'
     have hilt : i < c.length := by
      rcases Nat.lt_or_ge i c.length with hh | hh
      ·exact hh
      ·rw [List.getElem?_eq_none hh] at hi'; cases hi'
     obtain ⟨v', hv1, hv2⟩ := k.cell _ _ hi'
     exact ⟨v', by rw [if_neg (by omega)]; exact hv1, hv2⟩
   ·rw [if_neg hxb] at hput
    by_cases hlb : lx.b = l.b
    ·have hsh := h.sep _ _ _ _ _ _ hb hx hlb.symm hg hput (fun e => hxb e.symm)
     cases ox with
     | dead => trivial
     | cells cx ex fx px =>
      obtain ⟨rfl, hoff⟩ := hsh
      have hmem := (h.wf.fam _ _ _ _ _ hput).2
      have hmemb := (h.wf.fam _ _ _ _ _ hg).2
      unfold memOk at hmem hmemb
      cases hfm : st.fm.get f with
      | none => rw [hfm] at hmem hmemb; exact absurd (hmem.trans hmemb.symm) hxb
      | some ms =>
       rw [hfm] at hmem
       have hfm' : (st.put b (.cells (listSet c o vs) es f p)).fm.get f = some ms := hfm
       have hap := overlaps_false (St.kill_apart hfm' hmem hxb hgx)
       obtain ⟨cx', elemx, lox, hix, ex', kx⟩ := h.obj _ _ _ hx hput
       rw [hlb, e] at ex'
       cases ex'
       rw [hlb]
       refine ⟨c'', elem, lo, hi, e1, kx.es, by rw [e2]; exact kx.size, kx.fits, fun i v hi' => ?_, kx.warm⟩
       have hilt : i < cx.length := by
        rcases Nat.lt_or_ge i cx.length with hh | hh
        ·exact hh
        ·rw [List.getElem?_eq_none hh] at hi'; cases hi'
       obtain ⟨v', hv1, hv2⟩ := kx.cell _ _ hi'
       refine ⟨v', ?_, hv2⟩
       rw [e3, if_neg (by omega)]
       exact hv1
     | _ => exact hsh.elim
    ·rw [hs.other _ hlb]
     exact h.obj _ _ _ hx hput
 ·intro x y lx ly ox oy hx hy hl g1 g2 hne
  rcases St.kill_old g1 with rfl | h1
  ·cases oy <;> trivial
  ·rcases St.kill_old g2 with rfl | h2
   ·cases ox <;> trivial
   ·rw [St.get_put] at h1 h2
    by_cases hxb : x = b
    ·subst hxb
     rw [if_pos rfl] at h1
     cases h1
     rw [if_neg (fun e => hne e.symm)] at h2
     have hsep := h.sep _ _ _ _ _ _ hx hy hl hg h2 hne
     cases oy <;> exact hsep
    ·rw [if_neg hxb] at h1
     by_cases hyb : y = b
     ·subst hyb
      rw [if_pos rfl] at h2
      cases h2
      have hsep := h.sep _ _ _ _ _ _ hx hy hl h1 hg hne
      cases ox <;> exact hsep
     ·rw [if_neg hyb] at h2
      exact h.sep _ _ _ _ _ _ hx hy hl h1 h2 hne
end
open Go.RowKit (Below)
section
variable {w0 : World} {N0 : Nat} {G : Nat -> Prop} {ρ : Ren} {st : St} {w : World}
theorem shareOk.symm {o o' : AObj} {l l' : Loc} (h : shareOk o o' l l') : shareOk o' o l' l := by
 cases o <;> cases o' <;> first | trivial | exact h | (obtain ⟨h1, h2⟩ := h; exact ⟨h1.symm, h2.symm⟩)
theorem WRel.extend (h : WRel w0 N0 G ρ st w) {st' : St} {w' : World} {o : AObj} {l : Loc} (hn : st'.n = st.n + 1) (hg : ∀ x, st'.get x = if x = st.n then some o else st.get x) (hwf : WF st')
  (hbelow : Below N0 w w') (hb1 : N0 <= l.b) (hb2 : l.b < w'.heap.size)
  (hold : ∀ x lx ox, ρ x = some lx -> st.get x = some ox -> ORel ρ lx ox w'.heap[lx.b]?)
  (hnew : ORel (ρ.add st.n l) l o w'.heap[l.b]?)
  (hsh : ∀ x lx ox, ρ x = some lx -> st.get x = some ox -> lx.b = l.b -> shareOk ox o lx l) :
  WRel w0 N0 G (ρ.add st.n l) st' w' := by
 have hle := Ren.le_add (l := l) h.none_at
 have hbig := h.big
 have hsz := hbelow.size
 refine ⟨hwf, h.below.trans hbelow, by omega, fun x hx => by have := h.gho x hx; exact ⟨by rw [Ren.add_ne _ _ (by omega)]; exact this.1, by omega⟩, ?_, ?_, ?_⟩
 ·intro b l' hb
  by_cases e : b = st.n
  ·subst e
   rw [Ren.add_same] at hb
   cases hb
   exact ⟨by omega, hb1, hb2⟩
  ·rw [Ren.add_ne _ _ e] at hb
   have := h.dom _ _ hb
   exact ⟨by omega, by omega, by omega⟩
 ·intro b l' o' hb hgb
  rw [hg] at hgb
  by_cases e : b = st.n
  ·subst e
   rw [Ren.add_same] at hb
   cases hb
   rw [if_pos rfl] at hgb
   cases hgb
   exact hnew
  ·rw [Ren.add_ne _ _ e] at hb
   rw [if_neg e] at hgb
   exact (hold _ _ _ hb hgb).mono hle
 ·intro b b' l1 l2 o1 o2 h1 h2 he g1 g2 hne
  rw [hg] at g1 g2
  by_cases e1 : b = st.n
  ·by_cases e2 : b' = st.n
   ·exact absurd (e1.trans e2.symm) hne
   ·subst e1
    rw [Ren.add_same] at h1
    cases h1
    rw [Ren.add_ne _ _ e2] at h2
    rw [if_pos rfl] at g1
    cases g1
    rw [if_neg e2] at g2
    exact (hsh _ _ _ h2 g2 he.symm).symm
  ·rw [Ren.add_ne _ _ e1] at h1
   rw [if_neg e1] at g1
   by_cases e2 : b' = st.n
   ·subst e2
    rw [Ren.add_same] at h2
    cases h2
    rw [if_pos rfl] at g2
    cases g2
    exact hsh _ _ _ h1 g1 he
   ·rw [Ren.add_ne _ _ e2] at h2
    rw [if_neg e2] at g2
    exact h.sep _ _ _ _ _ _ h1 h2 he g1 g2 hne
theorem WRel.weaken (h : WRel w0 N0 G ρ st w) {st' : St} (hn : st'.n = st.n) (hg : ∀ x o, st'.get x = some o -> o = .dead ∨ st.get x = some o) (hwf : WF st') : WRel w0 N0 G ρ st' w := by
 refine ⟨hwf, h.below, h.big, fun x hx => by rw [hn]; exact h.gho x hx, fun b l e => by rw [hn]; exact h.dom b l e, fun b l o e g => ?_, fun b b' l l' o o' h1 h2 he g1 g2 hne => ?_⟩
 ·rcases hg _ _ g with rfl | g'
  ·trivial
  ·exact h.obj _ _ _ e g'
 ·rcases hg _ _ g1 with rfl | g1'
  ·cases o' <;> trivial
  ·rcases hg _ _ g2 with rfl | g2'
   ·cases o <;> trivial
   ·exact h.sep _ _ _ _ _ _ h1 h2 he g1' g2' hne
theorem WF.put_dead (h : WF st) {b : Nat} (hb : b < st.n) : WF (st.put b .dead) := by
 refine ⟨fun x o hx => ?_, fun x c1 e1 f1 p1 hx => ?_, h.fml⟩
 ·rw [St.get_put] at hx
  by_cases hxb : x = b
  ·subst hxb; exact hb
  ·rw [if_neg hxb] at hx; exact h.lt _ _ hx
 ·rw [St.get_put] at hx
  by_cases hxb : x = b
  ·subst hxb; rw [if_pos rfl] at hx; cases hx
  ·rw [if_neg hxb] at hx; exact h.fam _ _ _ _ _ hx
def grown (st : St) (es fam fo b o len n : Nat) (c old xs : List Value) : St :=
 let st1 := st.kill fam st.n (fo + o + len * es) (fo + o + (len + n) * es)
 let ms := match st1.fm.get fam with | some ms => ms | none => if Nat.ble c.length (o + len * es) then [b] else []
 let st2 := if Nat.ble c.length (o + len * es) then st1 else st1.put b .dead
 { hp := st2.hp.set st.n (.cells (old ++ xs) es fam (fo + o)), n := st.n + 1, fm := st2.fm.set fam (st.n :: ms) }
def killed (st : St) (es fam fo b o len n : Nat) (c : List Value) : St :=
 let st1 := st.kill fam st.n (fo + o + len * es) (fo + o + (len + n) * es)
 if Nat.ble c.length (o + len * es) then st1 else st1.put b .dead
variable {es fam fo b o len n : Nat} {c old xs : List Value}
theorem killed_n : (killed st es fam fo b o len n c).n = st.n := by
 unfold killed
 dsimp only
 split
 ·exact St.kill_n
 ·exact St.kill_n (st := st)
theorem killed_old {x : Nat} {ob : AObj} (h : (killed st es fam fo b o len n c).get x = some ob) : ob = .dead ∨ st.get x = some ob := by
 unfold killed at h
 dsimp only at h
 split at h
 ·exact St.kill_old h
 ·rw [St.get_put] at h
  split at h
  ·cases h; exact .inl rfl
  ·exact St.kill_old h
theorem killed_wf (h : WF st) (hb : b < st.n) : WF (killed st es fam fo b o len n c) := by
 unfold killed
 dsimp only
 split
 ·exact h.kill
 ·exact h.kill.put_dead (by rw [St.kill_n]; exact hb)
theorem ble_false {a b : Nat} (h : ¬ Nat.ble a b = true) : b < a := by
 rcases Nat.lt_or_ge b a with h1 | h1
 ·exact h1
 ·exact absurd (Nat.ble_eq_true_of_le h1) h
theorem killed_apart (h : WF st) (hg : st.get b = some (.cells c es fam fo)) {x : Nat} {cx : List Value} {ex px : Nat}
  (hx : (killed st es fam fo b o len n c).get x = some (.cells cx ex fam px)) : fo + o + (len + n) * es <= px ∨ px + cx.length <= fo + o + len * es := by
 have hold := (killed_old hx).resolve_left (by intro e; cases e)
 have hxn := h.lt _ _ hold
 have hm := (h.fam _ _ _ _ _ hold).2
 have hmb := (h.fam _ _ _ _ _ hg).2
 unfold memOk at hm hmb
 by_cases hxb : x = b
 ·subst hxb
  rw [hg] at hold
  cases hold
  unfold killed at hx
  dsimp only at hx
  split at hx
  ·rename_i hle
   have := Nat.le_of_ble_eq_true hle
   exact .inr (by omega)
  ·rw [St.get_put, if_pos rfl] at hx; cases hx
 ·cases hfm : st.fm.get fam with
  | none => rw [hfm] at hm hmb; exact absurd (hm.trans hmb.symm) hxb
  | some ms =>
   rw [hfm] at hm
   have hx' : (st.kill fam st.n (fo + o + len * es) (fo + o + (len + n) * es)).get x = some (.cells cx ex fam px) := by
    unfold killed at hx
    dsimp only at hx
    split at hx
    ·exact hx
    ·rw [St.get_put, if_neg hxb] at hx; exact hx
   exact overlaps_false (St.kill_apart hfm hm (by omega) hx')
theorem grown_get (x : Nat) : (grown st es fam fo b o len n c old xs).get x = if x = st.n then some (.cells (old ++ xs) es fam (fo + o)) else (killed st es fam fo b o len n c).get x := by
 unfold grown killed St.get
 dsimp only
 rw [Tr.get_set]
theorem grown_wf (h : WF st) (hg : st.get b = some (.cells c es fam fo)) : WF (grown st es fam fo b o len n c old xs) := by
 have hb := h.lt _ _ hg
 have hk := killed_wf (es := es) (fam := fam) (fo := fo) (o := o) (len := len) (n := n) (c := c) h hb
 have hfam := h.fam _ _ _ _ _ hg
 refine ⟨fun x ob hx => ?_, fun x c1 e1 f1 p1 hx => ?_, fun f ms hf => ?_⟩
 ·show x < st.n + 1
  rw [grown_get] at hx
  by_cases e : x = st.n
  ·omega
  ·rw [if_neg e] at hx
   have := hk.lt _ _ hx
   rw [killed_n] at this
   omega
 ·show f1 < st.n + 1 /\ memOk _ x f1
  rw [grown_get] at hx
  have hfm2 : (killed st es fam fo b o len n c).fm = (st.kill fam st.n (fo + o + len * es) (fo + o + (len + n) * es)).fm := by
   unfold killed
   dsimp only
   split <;> rfl
  have hfmg : ∀ f, (grown st es fam fo b o len n c old xs).fm.get f = if f = fam then some (st.n :: (match (st.kill fam st.n (fo + o + len * es) (fo + o + (len + n) * es)).fm.get fam with | some ms => ms | none => if Nat.ble c.length (o + len * es) then [b] else [])) else (killed st es fam fo b o len n c).fm.get f := by
   intro f
   rw [hfm2]
   unfold grown
   dsimp only
   rw [Tr.get_set]
   split
   ·rfl
   ·split <;> rfl
  by_cases e : x = st.n
  ·subst e
   rw [if_pos rfl] at hx
   cases hx
   refine ⟨by omega, ?_⟩
   unfold memOk
   rw [hfmg, if_pos rfl]
   simp
  ·rw [if_neg e] at hx
   have hm := hk.fam _ _ _ _ _ hx
   rw [killed_n] at hm
   refine ⟨by omega, ?_⟩
   have hm2 := hm.2
   unfold memOk at hm2 ⊢
   rw [hfmg]
   by_cases ef : f1 = fam
   ·subst ef
    rw [if_pos rfl]
    rw [hfm2] at hm2
    refine List.mem_cons.2 (.inr ?_)
    cases hq : (st.kill f1 st.n (fo + o + len * es) (fo + o + (len + n) * es)).fm.get f1 with
    | some ms => rw [hq] at hm2; exact hm2
    | none =>
     rw [hq] at hm2
     have hnone : st.fm.get f1 = none := by
      cases hq2 : st.fm.get f1 with
      | none => rfl
      | some ms => rw [St.kill_some hq2] at hq; simp only [Tr.get_set] at hq; simp at hq
     have hbf : b = f1 := by have := hfam.2; unfold memOk at this; rw [hnone] at this; exact this
     have hxb : x = b := by rw [hbf]; exact hm2
     subst hxb
     dsimp only
     unfold killed at hx
     dsimp only at hx
     split at hx
     ·rename_i hle; rw [if_pos hle]; simp
     ·rw [St.get_put, if_pos rfl] at hx; cases hx
   ·rw [if_neg ef]; exact hm2
 ·show f < st.n + 1
  unfold grown at hf
  dsimp only at hf
  rw [Tr.get_set] at hf
  by_cases ef : f = fam
  ·subst ef; omega
  ·rw [if_neg ef] at hf
   have : f < (killed st es fam fo b o len n c).n := by
    refine hk.fml f ms ?_
    unfold killed
    dsimp only
    split <;> (rename_i hle; simp only [hle] at hf; exact hf)
   rw [killed_n] at this
   omega
end
end Go.AM
