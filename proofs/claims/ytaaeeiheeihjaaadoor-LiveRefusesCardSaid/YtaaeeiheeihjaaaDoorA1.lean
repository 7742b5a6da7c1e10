/- The road to a card of this seat: Def, Rel, Pure, Slice, Heap. Each theorem holds for every input that its own premises speak of. -/
import Derived.Calls
import Derived.Orders
import Derived.ArgAppend
import Derived.Laws.CopyRow
import Derived.Laws.Append
import Derived.Laws.Cells
set_option linter.all false
namespace Go.Ab
mutual
def sameV : Value → Value → Bool
  | .bool a, .bool b => a == b
  | .int k n, .int l m => k == l && n == m
  | .float k n, .float l m => k == l && n == m
  | .complex k n m, .complex k' n' m' => k == k' && n == n' && m == m'
  | .string a, .string b => decide (a = b)
  | .pointer a, .pointer b => a == b
  | .slice a n m, .slice b n' m' => a == b && n == n' && m == m'
  | .map a, .map b => a == b
  | .chan a, .chan b => a == b
  | .func f ⟨x⟩ ⟨y⟩, .func g ⟨x'⟩ ⟨y'⟩ => f == g && sameL x x' && sameL y y'
  | .nilFunc, .nilFunc => true
  | .iface t v, .iface t' v' => t == t' && sameV v v'
  | .nilIface, .nilIface => true
  | .agg ⟨x⟩, .agg ⟨y⟩ => sameL x y
  | .tuple ⟨x⟩, .tuple ⟨y⟩ => sameL x y
  | _, _ => false
def sameL : List Value → List Value → Bool
  | [], [] => true
  | a :: x, b :: y => sameV a b && sameL x y
  | _, _ => false
end
mutual
theorem sameV_eq : ∀ (a b : Value), sameV a b = true → a = b
  | .bool a, b, h => by cases b <;> simp_all [sameV]
  | .int k n, b, h => by cases b <;> simp_all [sameV]
  | .float k n, b, h => by cases b <;> simp_all [sameV]
  | .complex k n m, b, h => by cases b <;> simp_all [sameV]
  | .string a, b, h => by cases b <;> simp_all [sameV]
  | .pointer a, b, h => by cases b <;> simp_all [sameV]
  | .slice a n m, b, h => by cases b <;> simp_all [sameV]
  | .map a, b, h => by cases b <;> simp_all [sameV]
  | .chan a, b, h => by cases b <;> simp_all [sameV]
  | .nilFunc, b, h => by cases b <;> simp_all [sameV]
  | .nilIface, b, h => by cases b <;> simp_all [sameV]
  | .iface t v, b, h => by
    cases b <;> simp [sameV] at h
    rw [h.1, sameV_eq v _ h.2]
  | .func f ⟨x⟩ ⟨y⟩, b, h => by
    cases b <;> simp [sameV] at h
    rw [h.1.1, sameL_eq x _ h.1.2, sameL_eq y _ h.2]
  | .agg ⟨x⟩, b, h => by
    cases b <;> simp [sameV] at h
    rw [sameL_eq x _ h]
  | .tuple ⟨x⟩, b, h => by
    cases b <;> simp [sameV] at h
    rw [sameL_eq x _ h]
theorem sameL_eq : ∀ (a b : List Value), sameL a b = true → a = b
  | [], b, h => by cases b <;> simp_all [sameL]
  | x :: a, b, h => by
    cases b <;> simp [sameL] at h
    rw [sameV_eq x _ h.1, sameL_eq a _ h.2]
end
mutual
theorem sameV_refl : ∀ (a : Value), sameV a a = true
  | .bool a => by simp [sameV]
  | .int k n => by simp [sameV]
  | .float k n => by simp [sameV]
  | .complex k n m => by simp [sameV]
  | .string a => by simp [sameV]
  | .pointer a => by simp [sameV]
  | .slice a n m => by simp [sameV]
  | .map a => by simp [sameV]
  | .chan a => by simp [sameV]
  | .nilFunc => by simp [sameV]
  | .nilIface => by simp [sameV]
  | .iface t v => by simp [sameV, sameV_refl v]
  | .func f ⟨x⟩ ⟨y⟩ => by simp [sameV, sameL_refl x, sameL_refl y]
  | .agg ⟨x⟩ => by simp [sameV, sameL_refl x]
  | .tuple ⟨x⟩ => by simp [sameV, sameL_refl x]
theorem sameL_refl : ∀ (a : List Value), sameL a a = true
  | [] => by simp [sameL]
  | x :: a => by simp [sameL, sameV_refl x, sameL_refl a]
end

structure Blk where
  cells : List Value
  elem : TypeId
  ro : Bool
  deriving Inhabited

abbrev Heap := Array (Option Blk)

def flat1 : Value → Bool
  | .bool _ | .int .. | .string _ | .pointer none | .slice none 0 0 | .map none | .nilFunc | .nilIface => true
  | _ => false
def isBase : Value → Bool
  | .pointer _ => true
  | .slice .. => true
  | v => flat1 v
def flat : Value → Bool
  | .agg cs => cs.toList.all flat1
  | v => flat1 v

def pureRun {α : Type} (P : Program) : Sem α → Option α
  | .pure a => some a
  | .program k => pureRun P (k P)
  | _ => none

def pureV (P : Program) (s : Sem Value) : Option Value :=
  match pureRun P s with
  | some v => if flat v = true then some v else none
  | none => none

def isAggA (P : Program) (t : TypeId) : Option Bool :=
  match P.underlying t with
  | some (.struct _) => some true
  | some (.array _ _) => some true
  | some _ => some false
  | none => none
def sizeA (P : Program) (t : TypeId) : Option Nat := (P.info? t).map (·.size)
def bytesA (P : Program) (t : TypeId) : Option Nat := (P.info? t).map (·.bytes)
def zeroA (P : Program) (t : TypeId) : Option Value := (P.info? t).bind (·.zero)

def cellsA (H : Heap) (a : Addr) (n : Nat) : Option (List Value) :=
  match H[a.block]? with
  | some (some B) => if a.off + n ≤ B.cells.length then some ((B.cells.drop a.off).take n) else none
  | _ => none
def cellA (H : Heap) (a : Addr) : Option Value :=
  match H[a.block]? with
  | some (some B) => B.cells[a.off]?
  | _ => none
def loadA (P : Program) (H : Heap) (t : TypeId) (a : Addr) : Option Value :=
  match isAggA P t with
  | some true => match sizeA P t with
    | some n => (cellsA H a n).map fun l => .agg l.toArray
    | none => none
  | some false => cellA H a
  | none => none

def splice (cs : List Value) (off : Nat) (vs : List Value) : List Value := cs.take off ++ vs ++ cs.drop (off + vs.length)
def notTuple : Value → Bool
  | .tuple _ => false
  | _ => true
def storeA (P : Program) (H : Heap) (t : TypeId) (a : Addr) (v : Value) : Option Heap :=
  match sizeA P t, H[a.block]? with
  | some n, some (some B) =>
    if B.ro = false ∧ v.cells.size = n ∧ a.off + n ≤ B.cells.length ∧ notTuple v = true then
      some (H.setIfInBounds a.block (some { B with cells := splice B.cells a.off v.cells.toList }))
    else none
  | _, _ => none
def newA (H : Heap) (t : TypeId) (cs : List Value) : Value × Heap :=
  (.pointer (some ⟨H.size, 0, none⟩), H.push (some ⟨cs, t, false⟩))

def evT (T : Array Value) : Operand → Value
  | .tmp t => T.getD t undef
  | .const v => v
  | .global g => .pointer (some ⟨g, 0, none⟩)
  | .func f => .func (.func f) #[] #[]
def putT (T : Array Value) (dst : Option Tmp) (v : Value) : Array Value :=
  match dst with
  | some d => T.setIfInBounds d v
  | none => T

def okOpd (P : Program) : Operand → Bool
  | .tmp _ => true
  | .const v => flat v
  | .global g => decide (g < P.globals.size)
  | .func _ => true

def fieldsA (P : Program) (t : TypeId) : Option (Array Field) :=
  match P.underlying t with
  | some (.struct fs) => some fs
  | _ => none

def fieldA (P : Program) (t : TypeId) (f : Nat) : Option (Nat × TypeId) :=
  match fieldsA P t with
  | some fs => match fs[f]? with
    | some x => some (x.offset, x.type)
    | none => none
  | none => none

def partA (P : Program) (t : TypeId) (cs : Array Value) (off : Nat) : Option Value :=
  match isAggA P t with
  | some true => match sizeA P t with
    | some n => some (.agg (cs.extract off (off + n)))
    | none => none
  | some false => cs[off]?
  | none => none

def elemA (P : Program) (t : TypeId) : Option TypeId :=
  match P.underlying t with
  | some (.slice e) => some e
  | _ => none
def arrayA (P : Program) (t : TypeId) : Option (Nat × TypeId) :=
  match P.underlying t with
  | some (.array n e) => some (n, e)
  | _ => none

def indexAddrA (P : Program) (t : TypeId) (x i : Value) : Option Value :=
  match i with
  | .int _ i => match x with
    | .slice (some a) n _ => match elemA P t with
      | some e => match sizeA P e with
        | some sz => if 0 ≤ i ∧ i < n then some (.pointer (some ⟨a.block, a.off + i.toNat * sz, none⟩)) else none
        | none => none
      | none => none
    | .pointer (some a) => match arrayA P t with
      | some (n, e) => match sizeA P e with
        | some sz => if 0 ≤ i ∧ i < n then some (.pointer (some ⟨a.block, a.off + i.toNat * sz, none⟩)) else none
        | none => none
      | none => none
    | _ => none
  | _ => none

def indexA (P : Program) (t : TypeId) (x i : Value) : Option Value :=
  match i, x with
  | .int _ i, .agg cs => match arrayA P t with
    | some (n, e) => match sizeA P e with
      | some sz => if 0 ≤ i ∧ i < n then partA P e cs (i.toNat * sz) else none
      | none => none
    | none => none
  | .int _ i, .string s => match P.underlying t with
    | some .string => if 0 ≤ i then (s[i.toNat]?).map fun b => .int .u8 b.toNat else none
    | _ => none
  | _, _ => none

def nilEq : Value → Value → Option Bool
  | .pointer (some _), .pointer none => some false
  | .pointer none, .pointer (some _) => some false
  | .slice (some _) _ _, .slice none _ _ => some false
  | .slice none _ _, .slice (some _) _ _ => some false
  | .func .., .nilFunc => some false
  | .nilFunc, .func .. => some false
  | .iface .., .nilIface => some false
  | .nilIface, .iface .. => some false
  | _, _ => none
def nilType (P : Program) (t : TypeId) (x : Value) : Bool :=
  match P.underlying t, x with
  | some (.pointer _), .pointer _ => true
  | some (.slice _), .slice .. => true
  | some (.func ..), .func .. => true
  | some (.func ..), .nilFunc => true
  | some (.interface _), .iface .. => true
  | some (.interface _), .nilIface => true
  | _, _ => false

def binA (P : Program) (op : BinOp) (t : TypeId) (ox oy : Operand) (x y : Value) : Option Value :=
  if flat x && flat y then pureV P (do eqGuard op t ox oy x y; binOp op t x y)
  else if nilType P t x then match op, nilEq x y with
    | .eql, some b => some (.bool b)
    | .neq, some b => some (.bool (!b))
    | _, _ => none
  else none

def intOf? : Option Value → Option (Option Int)
  | none => some none
  | some (.int _ n) => some (some n)
  | _ => none

def sliceA (P : Program) (t : TypeId) (x : Value) (lo hi mx : Option Value) : Option Value :=
  match intOf? lo, intOf? hi, intOf? mx with
  | some lo, some hi, some mx =>
    match x with
    | .slice (some a) n cap => match elemA P t with
      | some e => match sizeA P e with
        | some sz =>
          let m := (mx.getD cap).toNat
          let h := (hi.getD n).toNat
          let l := (lo.getD 0).toNat
          if 0 ≤ mx.getD cap ∧ mx.getD cap ≤ cap ∧ 0 ≤ hi.getD n ∧ hi.getD n ≤ m ∧ 0 ≤ lo.getD 0 ∧ lo.getD 0 ≤ h ∧ 0 < sz ∧ (mx = none ∨ hi ≠ none) ∧ n ≤ cap then
            if a.spot = some (sz + 1) ∧ mx = none then some (.slice (some ⟨a.block, a.off + l * sz, some (sz + 1)⟩) (h - l) (m - l))
            else if a.spot ≠ some 0 ∧ mx = none then none
            else some (.slice (some ⟨a.block, if m = l then a.off else a.off + l * sz, some 0⟩) (h - l) (m - l))
          else none
        | none => none
      | none => none
    | .slice none 0 0 => match elemA P t with
      | some e => match sizeA P e with
        | some _ => if (mx.getD 0) = 0 ∧ (hi.getD 0) = 0 ∧ lo.getD 0 = 0 ∧ (mx = none ∨ hi ≠ none) then some (.slice none 0 0) else none
        | none => none
      | none => none
    | .pointer (some a) => match arrayA P t with
      | some (n, e) => match sizeA P e with
        | some sz =>
          let m := (mx.getD n).toNat
          let h := (hi.getD n).toNat
          let l := (lo.getD 0).toNat
          if 0 ≤ mx.getD n ∧ mx.getD n ≤ n ∧ 0 ≤ hi.getD n ∧ hi.getD n ≤ m ∧ 0 ≤ lo.getD 0 ∧ lo.getD 0 ≤ h ∧ (mx = none ∨ hi ≠ none) then
            some (.slice (some ⟨a.block, if m = l then a.off else a.off + l * sz, some 0⟩) (h - l) (m - l))
          else none
        | none => none
      | none => none
    | .string s => match P.underlying t with
      | some .string =>
        let h := (hi.getD s.size).toNat
        let l := (lo.getD 0).toNat
        if mx = none ∧ 0 ≤ hi.getD s.size ∧ hi.getD s.size ≤ s.size ∧ 0 ≤ lo.getD 0 ∧ lo.getD 0 ≤ h then some (.string (s.extract l h)) else none
      | _ => none
    | _ => none
  | _, _, _ => none

def zerosA (z : Value) (n : Nat) : List Value := (List.range n).map fun i => z.cells[i % z.cells.size]!

def makeSliceA (P : Program) (H : Heap) (t : TypeId) (len cap : Value) : Option (Value × Heap) :=
  match len, cap, elemA P t with
  | .int _ l, .int _ c, some e => match sizeA P e, bytesA P e, zeroA P e with
    | some sz, some by_, some z =>
      if 0 ≤ l ∧ l ≤ c ∧ by_ * c ≤ 2 ^ 47 ∧ c ≤ 2 ^ 47 ∧ 0 < sz ∧ z.cells.size = sz ∧ flat z = true then
        some (.slice (some ⟨H.size, 0, some (sz + 1)⟩) l.toNat c.toNat, H.push (some ⟨zerosA z (c.toNat * sz), e, false⟩))
      else none
    | _, _, _ => none
  | _, _, _ => none

def buildA (P : Program) (t : TypeId) (parts : List (Nat × Value)) : Option Value :=
  match zeroA P t with
  | some z => if flat z = true ∧ (parts.all fun p => notTuple p.2) = true then
      match P.underlying t with
      | some (.struct fields) =>
        match fields.toList.mapM fun f => (sizeA P f.type).map fun n => (f.offset, n) with
        | some places => (Instr.fill (places[·]?) z.cells parts).map .agg
        | none => none
      | some (.array _ e) => match sizeA P e with
        | some size => (Instr.fill (fun i => some (i * size, size)) z.cells parts).map .agg
        | none => none
      | _ => none
    else none
  | none => none

def buildSliceA (P : Program) (H : Heap) (t : TypeId) (len : Nat) (parts : List (Nat × Value)) : Option (Value × Heap) :=
  match elemA P t with
  | some e => match sizeA P e, zeroA P e with
    | some size, some z =>
      if len * size ≤ 2 ^ 24 ∧ 0 < size ∧ z.cells.size = size ∧ flat z = true ∧ (parts.all fun p => notTuple p.2) = true then
        match Instr.fill (fun i => some (i * size, size)) (zerosA z (len * size)).toArray parts with
        | some cells => some (.slice (some ⟨H.size, 0, some (size + 1)⟩) len len, H.push (some ⟨cells.toList, e, false⟩))
        | none => none
      else none
    | _, _ => none
  | none => none

def sliceCells (H : Heap) (sz : Nat) : Value → Option (List Value)
  | .slice (some a) n _ => cellsA H a (n * sz)
  | .slice none _ _ => some []
  | _ => none
def isNilSlice : Value → Bool
  | .slice none _ _ => true
  | _ => false
def lenA : Value → Nat
  | .slice _ n _ => n
  | _ => 0
def appendA (P : Program) (H : Heap) (t : TypeId) (s x : Value) : Option (Value × Heap) :=
  match elemA P t with
  | some e => match sizeA P e, bytesA P e, zeroA P e, s, x with
    | some sz, some by_, some z, .slice base n cap, .slice xb k xc =>
      if 0 < sz ∧ z.cells.size = sz ∧ (n + k) * (by_ + 1) ≤ 2 ^ 47 then
        match sliceCells H sz (.slice base n cap), sliceCells H sz (.slice xb k xc) with
        | some c, some d =>
          match base with
          | none => if n = 0 ∧ cap = 0 then
              if k = 0 then some (.slice none 0 0, H)
              else some (.slice (some ⟨H.size, 0, some (sz + 1)⟩) k k, H.push (some ⟨d, e, false⟩))
            else none
          | some a => match H[a.block]? with
            | some (some B) =>
              if a.spot = some (sz + 1) then
                if B.ro = false ∧ B.elem = e then
                  some (.slice (some ⟨H.size, 0, some (sz + 1)⟩) (n + k) (n + k), (H.setIfInBounds a.block none).push (some ⟨c ++ d, e, false⟩))
                else none
              else if a.spot ≠ some 0 then none
              else if n + k ≤ cap then
                if k = 0 then some (.slice base n cap, H) else none
              else some (.slice (some ⟨H.size, 0, some (sz + 1)⟩) (n + k) (n + k), H.push (some ⟨c ++ d, e, false⟩))
            | _ => none
        | _, _ => none
      else none
    | _, _, _, _, _ => none
  | none => none

def clearA (P : Program) (H : Heap) (t : TypeId) (s : Value) : Option (Value × Heap) :=
  match elemA P t, s with
  | some _, .slice none _ _ => some (.tuple #[], H)
  | some _, .slice (some _) 0 _ => some (.tuple #[], H)
  | some e, .slice (some a) (n + 1) _ => match zeroA P e, H[a.block]? with
    | some z, some (some B) =>
      if B.ro = false ∧ flat z = true ∧ 0 < z.cells.size ∧ a.off + (n + 1) * z.cells.size ≤ B.cells.length then
        some (.tuple #[], H.setIfInBounds a.block (some { B with cells := splice B.cells a.off (zerosA z ((n + 1) * z.cells.size)) }))
      else none
    | _, _ => none
  | _, _ => none

def stepOp (P : Program) (ev : Operand → Value) (op : Op) (H : Heap) : Option (Value × Heap) :=
  match op with
  | .move x => some (ev x, H)
  | .assign x => some (ev x, H)
  | .pick c a b => match ev c with
    | .bool t => some (if t then ev a else ev b, H)
    | _ => none
  | .alloc e => match zeroA P e with
    | some z => if flat z = true then some (newA H e z.cells.toList) else none
    | none => none
  | .box e x => match sizeA P e with
    | some _ => if notTuple (ev x) = true then some (newA H e (ev x).cells.toList) else none
    | none => none
  | .build t parts => (buildA P t (parts.toList.map fun (i, x) => (i, ev x))).map (·, H)
  | .buildSlice t len parts => buildSliceA P H t len (parts.toList.map fun (i, x) => (i, ev x))
  | .load t a => match ev a with
    | .pointer (some a) => (loadA P H t a).map (·, H)
    | _ => none
  | .store t a x => match ev a with
    | .pointer (some a) => (storeA P H t a (ev x)).map (undef, ·)
    | _ => none
  | .nilCheck x => match ev x with
    | .pointer (some a) => some (.pointer (some a), H)
    | .func (.func f) a b => some (.func (.func f) a b, H)
    | _ => none
  | .binOp o t x y _ => (binA P o t x y (ev x) (ev y)).map (·, H)
  | .unOp o _ x => if flat (ev x) then (pureV P (Op.unary o (ev x))).map (·, H) else none
  | .convert s d x => if flat (ev x) then (pureV P (convert s d (ev x))).map (·, H) else none
  | .makeFunc (.func f) first captured => if (first ++ captured).toList.all (fun x => isBase (ev x)) then some (.func (.func f) (first.map ev) (captured.map ev), H) else none
  | .makeSlice t l c => makeSliceA P H t (ev l) (ev c)
  | .slice t x lo hi mx => (sliceA P t (ev x) (lo.map ev) (hi.map ev) (mx.map ev)).map (·, H)
  | .fieldAddr s x f => match ev x, fieldA P s f with
    | .pointer (some a), some (off, ft) => match sizeA P ft with
      | some (_ + 1) => some (.pointer (some ⟨a.block, a.off + off, none⟩), H)
      | _ => none
    | _, _ => none
  | .field t x f => match ev x, fieldA P t f with
    | .agg cs, some (off, ft) => (partA P ft cs off).map (·, H)
    | _, _ => none
  | .indexAddr t x i => (indexAddrA P t (ev x) (ev i)).map (·, H)
  | .index t x i => (indexA P t (ev x) (ev i)).map (·, H)
  | .extract x i => match ev x with
    | .tuple vs => (vs[i]?).map (·, H)
    | _ => none
  | .call { callee := .builtin b, args, argTypes } =>
    match b, args.toList.map ev, argTypes.toList with
    | .append, [s, x], [t, u] => if t = u then appendA P H t s x else none
    | .clear, [s], [t] => clearA P H t s
    | .len, [.slice _ n _], t :: _ => match P.underlying t with
      | some (.slice _) => some (.int .i64 n, H)
      | _ => none
    | .len, [.string s], t :: _ => match P.underlying t with
      | some .string => some (.int .i64 s.size, H)
      | _ => none
    | .max, l, _ => if l.all flat1 then (pureV P (Builtin.max_ argTypes 0 l.toArray)).map (·, H) else none
    | .min, l, _ => if l.all flat1 then (pureV P (Builtin.min_ argTypes 0 l.toArray)).map (·, H) else none
    | _, _, _ => none
  | _ => none

abbrev CallF := FuncId → Array Value → Heap → Option (Value × Heap)
def opA (P : Program) (call : CallF) (T : Array Value) (o : Oper) (H : Heap) : Option (Value × Heap) :=
  if o.op.operands.toList.all (okOpd P) then
    match o.op with
    | .call { callee := .value f, args, .. } => match evT T f with
      | .func (.func g) first captured => call g ((first ++ args.map (evT T)) ++ captured) H
      | _ => none
    | op => stepOp P (evT T) op H
  else none

def wantedA (ops : Array Oper) (T : Array Value) (o : Oper) : Bool := Region.wanted o (yielded ops T)

def stA (P : Program) (call : CallF) (ops : Array Oper) (o : Oper) (s : Array Value × Heap) : Option (Array Value × Heap) :=
  if wantedA ops s.1 o then (opA P call s.1 o s.2).map fun r => (putT s.1 o.dst r.1, r.2)
  else some (putT s.1 o.dst undef, s.2)

abbrev Yl := Nat → Array Value → Heap → Option (Value × Heap)
inductive Mode
  | fn
  | round
  | iter (yl : Yl)
def yieldOf (P : Program) (T : Array Value) (o : Oper) : Option (Nat × Array Value) :=
  match o.op with
  | .call { callee := .value f, args, .. } => match evT T f with
    | .func (.yield b) ⟨[]⟩ ⟨[]⟩ => if o.op.operands.toList.all (okOpd P) then some (b, args.map (evT T)) else none
    | _ => none
  | _ => none
def opY (P : Program) (call : CallF) (m : Mode) (T : Array Value) (o : Oper) (H : Heap) : Option (Value × Heap) :=
  match m, yieldOf P T o with
  | .iter yl, some (b, as) => yl b as H
  | _, _ => opA P call T o H
def stY (P : Program) (call : CallF) (m : Mode) (ops : Array Oper) (o : Oper) (s : Array Value × Heap) : Option (Array Value × Heap) :=
  if wantedA ops s.1 o then (opY P call m s.1 o s.2).map fun r => (putT s.1 o.dst r.1, r.2)
  else some (putT s.1 o.dst undef, s.2)
def regA (P : Program) (call : CallF) (m : Mode) (ops : Array Oper) : List Oper → Array Value → Heap → Option (Array Value × Heap)
  | [], T, H => some (T, H)
  | o :: rest, T, H => match stY P call m ops o (T, H) with
    | some (T', H') => regA P call m ops rest T' H'
    | none => none

def traceA (P : Program) (call : CallF) (ops : Array Oper) : List Oper → Array Value × Heap → Option (List (Array Value × Heap))
  | [], s => some [s]
  | o :: rest, s => match stA P call ops o s with
    | some s' => (traceA P call ops rest s').map (s :: ·)
    | none => none

def loud : Op → Bool
  | .move _ | .assign _ | .pick .. | .alloc _ | .box .. | .build .. | .buildSlice .. | .load .. | .nilCheck _ | .binOp .. | .unOp .. | .convert .. | .makeFunc .. | .makeSlice ..
  | .slice .. | .fieldAddr .. | .field .. | .indexAddr .. | .index .. | .extract .. => false
  | .call { callee := .builtin .len, .. } | .call { callee := .builtin .max, .. } | .call { callee := .builtin .min, .. } => false
  | _ => true

def ancsFrom (ops : List Oper) (acc : List (List Nat)) : List (List Nat) :=
  match ops with
  | [] => acc
  | o :: rest => ancsFrom rest (acc ++ [(o.after.toList.filter (Region.binds .any)).flatMap fun e => e.on :: (acc[e.on]?).getD []])
def ancs (ops : Array Oper) : List (List Nat) := ancsFrom ops.toList []

def namesOf (ops : Array Oper) (o : Oper) : List Tmp := o.dst.toList ++ o.looksAt ops

def drawOk (ops : Array Oper) : Bool :=
  let A := ancs ops
  let before (i j : Nat) : Bool := ((A[j]?).getD []).contains i
  (List.range ops.size).all fun j => match ops[j]? with
    | none => false
    | some oj =>
      (oj.after.all fun e => !Region.binds .any e || decide (e.on < j)) &&
      (match oj.guard with | some (g, _) => decide (g < ops.size) | none => true) &&
      (List.range ops.size).all fun i => match ops[i]? with
        | none => false
        | some oi =>
          (i == j || before i j || before j i ||
            (!(loud oi.op && loud oj.op) &&
              (match oi.dst with | some d => !(namesOf ops oj).contains d | none => true)))

def sameO : Option Value → Value → Bool
  | some u, v => sameV u v
  | none, _ => false
def stableAt (P : Program) (H : Heap) (t : TypeId) (a : Addr) (v : Value) : Bool :=
  decide (H.size ≤ a.block) || sameO (loadA P H t a) v
def sameB : Option (Option Blk) → Option (Option Blk) → Bool
  | some (some B), some (some C) => sameL B.cells C.cells && B.elem == C.elem && B.ro == C.ro
  | _, _ => false
def beside (P : Program) (o : Oper) (s s' : Array Value × Heap) (c c' : Heap) (later : Bool) : Bool :=
  match o.op with
  | .load t x => match evT s.1 x with
    | .pointer (some a) => match loadA P s.2 t a with
      | some v => stableAt P c t a v && stableAt P c' t a v
      | none => false
    | _ => false
  | _ => if later && decide (s.2.size < s'.2.size) then sameB c'[s.2.size]? s'.2[s.2.size]? else true
def stable (P : Program) (ops : Array Oper) (tr : List (Array Value × Heap)) : Bool :=
  let A := ancs ops
  let before (i j : Nat) : Bool := ((A[j]?).getD []).contains i
  (List.range ops.size).all fun j => match ops[j]?, tr[j]?, tr[j + 1]? with
    | some oj, some s, some s' =>
      decide (s.2.size ≤ s'.2.size) &&
      (!(wantedA ops s.1 oj) || loud oj.op ||
        (List.range ops.size).all fun c => match ops[c]?, tr[c]?, tr[c + 1]? with
          | some oc, some s0, some s1 => !loud oc.op || before c j || before j c || beside P oj s s' s0.2 s1.2 (decide (j < c))
          | _, _, _ => false)
    | _, _, _ => false

def regD (P : Program) (call : CallF) (ops : Array Oper) (T : Array Value) (H : Heap) : Option (Array Value × Heap) :=
  match traceA P call ops ops.toList (T, H) with
  | some tr => if drawOk ops && stable P ops tr then tr.getLast? else none
  | none => none

inductive AExit where
  | normal
  | exit (id : Nat)
  | ret
  deriving DecidableEq, Inhabited

def resultsA (P : Program) (fn : Func) (T : Array Value) (H : Heap) : Option Value :=
  match fn.results.toList.mapM fun
    | .tmp t => some (T.getD t undef)
    | .cell a t => match T.getD a undef with
      | .pointer (some ad) => loadA P H t ad
      | _ => none with
  | some vs => match vs with
    | [v] => some v
    | _ => if (vs.all notTuple) = true then some (.tuple vs.toArray) else none
  | none => none

def frameA (fn : Func) (args : Array Value) : Array Value := args ++ Array.replicate (fn.ntmps - args.size) undef

def putAll (T : Array Value) (ps : Array Tmp) (args : Array Value) : Array Value := (ps.zip args).foldl (fun t (p, v) => t.setIfInBounds p v) T

def roundYl (asg body : Array Value → Heap → Option (AExit × Array Value × Heap)) (ps : Array Tmp) (T : Array Value) (l : Nat) : Yl := fun b args H1 =>
  if b = l ∧ args.size = ps.size then
    match asg (putAll T ps args) H1 with
    | some (.normal, T1, H2) => match body T1 H2 with
      | some (.normal, _, H3) => some (.bool true, H3)
      | _ => none
    | _ => none
  else none

def execA (P : Program) (call : CallF) : Nat → Mode → Code → Array Value → Heap → Option (AExit × Array Value × Heap)
  | 0, _, _, _, _ => none
  | n + 1, m, c, T, H =>
    match c with
    | .skip => some (.normal, T, H)
    | .label _ => some (.normal, T, H)
    | .region _ ops draw =>
      (if draw then regD P call ops T H else regA P call m ops ops.toList T H).map fun r => (.normal, r.1, r.2)
    | .seq a b => match execA P call n m a T H with
      | some (.normal, T', H') => execA P call n m b T' H'
      | r => r
    | .cond c a b => if okOpd P c then match evT T c with
        | .bool t => execA P call n m (if t then a else b) T H
        | _ => none
      else none
    | .block id c => match execA P call n m c T H with
      | some (.exit id', T', H') => if id' = id then some (.normal, T', H') else some (.exit id', T', H')
      | r => r
    | .loop c => match execA P call n m c T H with
      | some (.normal, T', H') => execA P call n m (.loop c) T' H'
      | r => r
    | .exit id => some (.exit id, T, H)
    | .ret => some (.ret, T, H)
    | .rangeFunc f ps assign body => match m with
      | .fn => if okOpd P f then match evT T f with
        | .func (.func g) ⟨[]⟩ captured => match P.funcs[g]? with
          | some fn => if fn.name == "runtime.NumGoroutine" then none else match fn.body with
            | some c =>
              match execA P call n (.iter (roundYl (execA P call n .round assign) (execA P call n .round body) ps T H.size)) c (frameA fn (#[.func (.yield H.size) #[] #[]] ++ captured)) (H.push none) with
              | some (.exit _, _, _) => none
              | some (_, T', H') => match resultsA P fn T' H' with
                | some _ => some (.normal, T, H')
                | none => none
              | none => none
            | none => none
          | none => none
        | _ => none
        else none
      | _ => none
    | _ => none

def callA (P : Program) (prim : CallF) : Nat → CallF
  | 0, f, args, H => prim f args H
  | n + 1, f, args, H =>
    match prim f args H with
    | some r => some r
    | none =>
    match P.funcs[f]? with
    | some fn => if fn.name == "runtime.NumGoroutine" then none else match fn.body with
      | some c => match execA P (callA P prim n) (n + 1) .fn c (frameA fn args) H with
        | some (.exit _, _, _) => none
        | some (_, T, H') => (resultsA P fn T H').map (·, H')
        | none => none
      | none => none
    | none => none
end Go.Ab
namespace Go.Ab

inductive All2 {α β : Type} (R : α → β → Prop) : List α → List β → Prop
  | nil : All2 R [] []
  | cons {a b x y} : R a b → All2 R x y → All2 R (a :: x) (b :: y)

namespace All2
variable {α β : Type} {R S : α → β → Prop}
theorem length {x : List α} {y : List β} (h : All2 R x y) : x.length = y.length := by
  induction h <;> simp_all
theorem get {x : List α} {y : List β} (h : All2 R x y) (i : Nat) (a : α) (ha : x[i]? = some a) : ∃ b, y[i]? = some b ∧ R a b := by
  induction h generalizing i with
  | nil => simp at ha
  | cons h t ih =>
    cases i with
    | zero => simp at ha; subst ha; exact ⟨_, rfl, h⟩
    | succ i => simp at ha; simpa using ih i ha
theorem get' {x : List α} {y : List β} (h : All2 R x y) (i : Nat) (b : β) (hb : y[i]? = some b) : ∃ a, x[i]? = some a ∧ R a b := by
  induction h generalizing i with
  | nil => simp at hb
  | cons h t ih =>
    cases i with
    | zero => simp at hb; subst hb; exact ⟨_, rfl, h⟩
    | succ i => simp at hb; simpa using ih i hb
theorem mono {x : List α} {y : List β} (h : All2 R x y) (m : ∀ a b, R a b → S a b) : All2 S x y := by
  induction h with
  | nil => exact .nil
  | cons h t ih => exact .cons (m _ _ h) ih
theorem mk {x : List α} {y : List β} (hl : x.length = y.length) (h : ∀ (i : Nat) (a : α) (b : β), x[i]? = some a → y[i]? = some b → R a b) : All2 R x y := by
  induction x generalizing y with
  | nil => cases y with
    | nil => exact .nil
    | cons _ _ => simp at hl
  | cons a x ih => cases y with
    | nil => simp at hl
    | cons b y => exact .cons (h 0 a b rfl rfl) (ih (by simpa using hl) fun i a b ha hb => h (i + 1) a b (by simpa using ha) (by simpa using hb))
theorem append {x x' : List α} {y y' : List β} (h : All2 R x y) (h' : All2 R x' y') : All2 R (x ++ x') (y ++ y') := by
  induction h with
  | nil => exact h'
  | cons h t ih => exact .cons h ih
theorem take {x : List α} {y : List β} (h : All2 R x y) (n : Nat) : All2 R (x.take n) (y.take n) := by
  induction h generalizing n with
  | nil => simp; exact .nil
  | cons h t ih => cases n with
    | zero => simp; exact .nil
    | succ n => simp; exact .cons h (ih n)
theorem drop {x : List α} {y : List β} (h : All2 R x y) (n : Nat) : All2 R (x.drop n) (y.drop n) := by
  induction h generalizing n with
  | nil => simp; exact .nil
  | cons h t ih => cases n with
    | zero => simp; exact .cons h t
    | succ n => simp; exact ih n
theorem set {x : List α} {y : List β} (h : All2 R x y) (n : Nat) {a : α} {b : β} (hab : R a b) : All2 R (x.set n a) (y.set n b) := by
  induction h generalizing n with
  | nil => simp; exact .nil
  | cons h t ih => cases n with
    | zero => simp; exact .cons hab t
    | succ n => simp; exact .cons h (ih n)
theorem mapBoth {γ : Type} {x : List γ} {f : γ → α} {g : γ → β} (h : ∀ c ∈ x, R (f c) (g c)) : All2 R (x.map f) (x.map g) := by
  induction x with
  | nil => exact .nil
  | cons c x ih => exact .cons (h c (by simp)) (ih fun d hd => h d (by simp [hd]))
theorem refl {T : α → α → Prop} {x : List α} (h : ∀ a ∈ x, T a a) : All2 T x x := by
  induction x with
  | nil => exact .nil
  | cons a x ih => exact .cons (h a (by simp)) (ih fun b hb => h b (by simp [hb]))
end All2

structure Loc where
  blk : Nat
  off : Nat
  sz : Nat
  lim : Nat
abbrev Ren := Nat → Option Loc

inductive Base (ρ : Ren) : Value → Value → Prop
  | flat {v : Value} : flat1 v = true → Base ρ v v
  | ptr {a : Addr} {l : Loc} : ρ a.block = some l → Base ρ (.pointer (some a)) (.pointer (some ⟨l.blk, l.off + a.off, none⟩))
  | slice {a : Addr} {l : Loc} {n cap cap' : Nat} : ρ a.block = some l → a.spot = some (l.sz + 1) → n ≤ cap → cap ≤ cap' → l.off + a.off + cap' * l.sz = l.lim →
      Base ρ (.slice (some a) n cap) (.slice (some ⟨l.blk, l.off + a.off, none⟩) n cap')
  | sliceEnd {a a' : Addr} {l : Loc} : ρ a.block = some l → Base ρ (.slice (some a) 0 0) (.slice (some a') 0 0)
  | sliceX {a : Addr} {l : Loc} {n cap : Nat} : ρ a.block = some l → a.spot = some 0 → n ≤ cap → Base ρ (.slice (some a) n cap) (.slice (some ⟨l.blk, l.off + a.off, none⟩) n cap)

inductive CRel (ρ : Ren) : Value → Value → Prop
  | base {v v' : Value} : Base ρ v v' → CRel ρ v v'
  | func {f : FuncId} {a a' c c' : Array Value} : All2 (Base ρ) a.toList a'.toList → All2 (Base ρ) c.toList c'.toList → CRel ρ (.func (.func f) a c) (.func (.func f) a' c')
  | yield {b : Nat} {l : Loc} : ρ b = some l → CRel ρ (.func (.yield b) #[] #[]) (.func (.yield l.blk) #[] #[])

inductive VRel1 (ρ : Ren) : Value → Value → Prop
  | cell {v v' : Value} : CRel ρ v v' → VRel1 ρ v v'
  | agg {a a' : Array Value} : All2 (CRel ρ) a.toList a'.toList → VRel1 ρ (.agg a) (.agg a')

inductive VRel (ρ : Ren) : Value → Value → Prop
  | one {v v' : Value} : VRel1 ρ v v' → VRel ρ v v'
  | tuple {a a' : Array Value} : All2 (VRel1 ρ) a.toList a'.toList → VRel ρ (.tuple a) (.tuple a')

def Ren.le (ρ ρ' : Ren) : Prop := ∀ b l, ρ b = some l → ρ' b = some l

theorem Base.mono {ρ ρ' : Ren} (h : ρ.le ρ') {v v' : Value} : Base ρ v v' → Base ρ' v v'
  | .flat a => .flat a
  | .ptr a => .ptr (h _ _ a)
  | .slice a b c d e => .slice (h _ _ a) b c d e
  | .sliceEnd a => .sliceEnd (h _ _ a)
  | .sliceX a b c => .sliceX (h _ _ a) b c
theorem CRel.mono {ρ ρ' : Ren} (h : ρ.le ρ') {v v' : Value} : CRel ρ v v' → CRel ρ' v v'
  | .base a => .base (a.mono h)
  | .func a b => .func (a.mono fun _ _ => Base.mono h) (b.mono fun _ _ => Base.mono h)
  | .yield a => .yield (h _ _ a)
theorem VRel1.mono {ρ ρ' : Ren} (h : ρ.le ρ') {v v' : Value} : VRel1 ρ v v' → VRel1 ρ' v v'
  | .cell a => .cell (a.mono h)
  | .agg a => .agg (a.mono fun _ _ => CRel.mono h)
theorem VRel.mono {ρ ρ' : Ren} (h : ρ.le ρ') {v v' : Value} : VRel ρ v v' → VRel ρ' v v'
  | .one a => .one (a.mono h)
  | .tuple a => .tuple (a.mono fun _ _ => VRel1.mono h)

theorem VRel.undef (ρ : Ren) : VRel ρ undef undef := .tuple .nil

theorem Base.oneCell {ρ : Ren} {v v' : Value} (h : Base ρ v v') : v'.oneCell' = true := by
  cases h with
  | flat h => cases v <;> simp [flat1] at h <;> rfl
  | _ => rfl
theorem CRel.oneCell {ρ : Ren} {v v' : Value} (h : CRel ρ v v') : v'.oneCell' = true := by
  cases h with
  | base h => exact h.oneCell
  | func _ _ => rfl
  | yield _ => rfl
theorem Base.cells {ρ : Ren} {v v' : Value} (h : Base ρ v v') : v.cells = #[v] ∧ v'.cells = #[v'] := by
  cases h with
  | flat h => cases v <;> simp [flat1] at h <;> exact ⟨rfl, rfl⟩
  | _ => exact ⟨rfl, rfl⟩
theorem CRel.cells {ρ : Ren} {v v' : Value} (h : CRel ρ v v') : v.cells = #[v] ∧ v'.cells = #[v'] := by
  cases h with
  | base h => exact h.cells
  | func _ _ => exact ⟨rfl, rfl⟩
  | yield _ => exact ⟨rfl, rfl⟩
theorem VRel.cells {ρ : Ren} {v v' : Value} (h : VRel ρ v v') (hn : notTuple v = true) : All2 (CRel ρ) v.cells.toList v'.cells.toList := by
  cases h with
  | one h => cases h with
    | cell h => rw [h.cells.1, h.cells.2]; exact .cons h .nil
    | agg h => exact h
  | tuple h => simp [notTuple] at hn

theorem Base.flat_eq {ρ : Ren} {v v' : Value} (h : Base ρ v v') (hf : flat1 v = true) : v' = v := by
  cases h <;> simp_all [flat1]
theorem CRel.flat_eq {ρ : Ren} {v v' : Value} (h : CRel ρ v v') (hf : flat1 v = true) : v' = v := by
  cases h with
  | base h => exact h.flat_eq hf
  | func _ _ => simp [flat1] at hf
  | yield _ => simp [flat1] at hf
theorem All2.flat_eq {ρ : Ren} {x y : List Value} (h : All2 (CRel ρ) x y) (hf : x.all flat1 = true) : y = x := by
  induction h with
  | nil => rfl
  | cons h t ih => simp at hf; rw [h.flat_eq hf.1, ih (by simpa using hf.2)]
theorem VRel.flat_eq {ρ : Ren} {v v' : Value} (h : VRel ρ v v') (hf : flat v = true) : v' = v := by
  cases h with
  | one h => cases h with
    | cell h =>
      refine h.flat_eq ?_
      cases h with
      | base h => cases h <;> simp_all [flat, flat1]
      | func _ _ => simp [flat, flat1] at hf
      | yield _ => simp [flat, flat1] at hf
    | agg h =>
      rename_i a a'
      simp only [flat] at hf
      have := h.flat_eq hf
      rw [← Array.toList_inj.1 this]
  | tuple h => simp [flat, flat1] at hf
theorem Base.of_flat {ρ : Ren} {v : Value} (h : flat1 v = true) : Base ρ v v := .flat h
theorem VRel.of_flat {ρ : Ren} {v : Value} (hf : flat v = true) : VRel ρ v v := by
  unfold flat at hf
  split at hf
  · exact .one (.agg (All2.refl fun a ha => .base (.flat (by simpa using List.all_eq_true.1 hf a ha))))
  · exact .one (.cell (.base (.flat hf)))

def Glob (P : Program) (ρ : Ren) : Prop := ∀ g, g < P.globals.size → ∃ l, ρ g = some l ∧ l.blk = g ∧ l.off = 0
theorem Glob.mono {P : Program} {ρ ρ' : Ren} (h : ρ.le ρ') (g : Glob P ρ) : Glob P ρ' := fun k hk => let ⟨l, h1, h2⟩ := g k hk; ⟨l, h _ _ h1, h2⟩
structure Rel (P : Program) (ρ : Ren) (H : Heap) (w : World) : Prop where
  row : ∀ b B l, H[b]? = some (some B) → ρ b = some l → l.off + B.cells.length ≤ l.lim ∧ sizeA P B.elem = some l.sz ∧
    ∃ cs e fr, w.heap[l.blk]? = some (.cells cs e fr) ∧ l.lim ≤ cs.size ∧ (B.ro = false → fr = (0, 0)) ∧
      ∀ i v, B.cells[i]? = some v → ∃ v', cs[l.off + i]? = some v' ∧ CRel ρ v v'
  inj : ∀ b c B C l m, H[b]? = some (some B) → H[c]? = some (some C) → ρ b = some l → ρ c = some m → l.blk = m.blk → b = c ∨ (B.ro = true ∧ C.ro = true)
  dom : ∀ b l, ρ b = some l → b < H.size ∧ l.blk < w.heap.size
  glob : Glob P ρ

def Wr (ρ : Ren) (H : Heap) (k : Nat) : Prop := ∃ b B l, H[b]? = some (some B) ∧ B.ro = false ∧ ρ b = some l ∧ l.blk = k

structure Ext (ρ : Ren) (H : Heap) (w : World) (ρ' : Ren) (H' : Heap) (w' : World) : Prop where
  le : ρ.le ρ'
  new : ∀ b l, ρ' b = some l → ρ b = some l ∨ H.size ≤ b
  size : H.size ≤ H'.size
  os : w'.os = w.os
  tape : w'.tape = w.tape
  output : w'.output = w.output
  wsize : w.heap.size ≤ w'.heap.size
  keep : ∀ k, k < w.heap.size → ¬ Wr ρ H k → w'.heap[k]? = w.heap[k]?
  wr : ∀ k, Wr ρ' H' k → k < w.heap.size → Wr ρ H k
  fresh : ∀ b l, ρ' b = some l → ρ b = none → w.heap.size ≤ l.blk ∨ Wr ρ H l.blk
  live : ∀ b B, b < H.size → H'[b]? = some (some B) → ∃ C, H[b]? = some (some C) ∧ C.ro = B.ro
  tot : ∀ b, H.size ≤ b → b < H'.size → ∃ l, ρ' b = some l

theorem Ext.refl (ρ : Ren) (H : Heap) (w : World) : Ext ρ H w ρ H w :=
  ⟨fun _ _ h => h, fun _ _ h => .inl h, Nat.le_refl _, rfl, rfl, rfl, Nat.le_refl _, fun _ _ _ => rfl, fun _ h _ => h, fun b l h h0 => by rw [h0] at h; (cases h), fun _ B _ h => ⟨B, h, rfl⟩, fun b h1 h2 => absurd h2 (Nat.not_lt.2 h1)⟩
theorem Ext.trans {ρ ρ1 ρ2 : Ren} {H H1 H2 : Heap} {w w1 w2 : World} (h : Ext ρ H w ρ1 H1 w1) (k : Ext ρ1 H1 w1 ρ2 H2 w2) : Ext ρ H w ρ2 H2 w2 where
  le b l hb := k.le _ _ (h.le _ _ hb)
  new b l hb := by
    rcases k.new b l hb with h1 | h1
    · exact h.new b l h1
    · exact .inr (Nat.le_trans h.size h1)
  size := Nat.le_trans h.size k.size
  os := k.os.trans h.os
  tape := k.tape.trans h.tape
  output := k.output.trans h.output
  wsize := Nat.le_trans h.wsize k.wsize
  keep j hj hn := by
    rw [k.keep j (Nat.lt_of_lt_of_le hj h.wsize) (fun hw => hn (h.wr j hw hj)), h.keep j hj hn]
  wr j hj hlt := h.wr j (k.wr j hj (Nat.lt_of_lt_of_le hlt h.wsize)) hlt
  fresh b l hb h0 := by
    cases h1 : ρ1 b with
    | some m =>
      have := k.le _ _ h1
      rw [hb] at this; cases this
      exact h.fresh b l h1 h0
    | none =>
      rcases k.fresh b l hb h1 with h2 | h2
      · exact .inl (Nat.le_trans h.wsize h2)
      · by_cases hlt : l.blk < w.heap.size
        · exact .inr (h.wr _ h2 hlt)
        · exact .inl (Nat.le_of_not_lt hlt)
  live b B hb hB := by
    obtain ⟨C, hC, h1⟩ := k.live b B (Nat.lt_of_lt_of_le hb h.size) hB
    obtain ⟨D, hD, h2⟩ := h.live b C hb hC
    exact ⟨D, hD, h2.trans h1⟩
  tot b hb hlt := by
    rcases Nat.lt_or_ge b H1.size with h1 | h1
    · obtain ⟨l, hl⟩ := h.tot b hb h1
      exact ⟨l, k.le _ _ hl⟩
    · exact k.tot b h1 hlt

theorem pureRun_run {α : Type} {P : Program} {s : Sem α} {a : α} (h : pureRun P s = some a) (w : World) : s.run P w = .ok a w := by
  induction s <;> simp_all [pureRun, Sem.run]

def TRel (ρ : Ren) (T T' : Array Value) : Prop := All2 (VRel ρ) T.toList T'.toList
theorem TRel.mono {ρ ρ' : Ren} (h : ρ.le ρ') {T T' : Array Value} (t : TRel ρ T T') : TRel ρ' T T' := All2.mono t fun _ _ => VRel.mono h
theorem TRel.put {ρ : Ren} {T T' : Array Value} (t : TRel ρ T T') (d : Option Tmp) {v v' : Value} (hv : VRel ρ v v') (df : List Deferred) :
    TRel ρ (putT T d v) (({ tmps := T', defers := df } : Act).put d v').tmps := by
  cases d with
  | none => exact t
  | some d => simp only [putT, Act.put, TRel, Array.toList_setIfInBounds]; exact All2.set t d hv
theorem TRel.getD {ρ : Ren} {T T' : Array Value} (t : TRel ρ T T') (i : Nat) : VRel ρ (T.getD i undef) (T'.getD i undef) := by
  have hl := All2.length t
  simp only [Array.length_toList] at hl
  by_cases hi : i < T.size
  · have h1 : T.toList[i]? = some T[i] := by simp [hi]
    obtain ⟨b, hb, hr⟩ := All2.get t i _ h1
    have hi' : i < T'.size := by omega
    have : b = T'[i] := by simpa [hi'] using hb.symm
    subst this
    simpa [Array.getD, hi, hi'] using hr
  · have hi' : ¬ i < T'.size := by omega
    simp [Array.getD, hi, hi']
    exact VRel.undef ρ
theorem TRel.ev {P : Program} {ρ : Ren} {T T' : Array Value} (t : TRel ρ T T') (hg : Glob P ρ) (df : List Deferred) {x : Operand} (hx : okOpd P x = true) : VRel ρ (evT T x) (({ tmps := T', defers := df } : Act).eval x) := by
  cases x with
  | tmp i => simpa [evT, Act.eval] using t.getD i
  | const v => exact VRel.of_flat hx
  | global g =>
    obtain ⟨⟨b, o, sz, lim⟩, h1, h2, h3⟩ := hg g (by simpa [okOpd] using hx)
    simp only at h2 h3
    subst h2; subst h3
    exact .one (.cell (.base (.ptr (a := ⟨b, 0, none⟩) h1)))
  | func f => exact .one (.cell (.func .nil .nil))

def Ren.lt (ρ : Ren) (m : Nat) : Ren := fun b => if b < m then ρ b else none
theorem Ren.lt_some {ρ : Ren} {m b : Nat} {l : Loc} : ρ.lt m b = some l ↔ b < m ∧ ρ b = some l := by
  unfold Ren.lt
  by_cases h : b < m <;> simp [h]

section
variable {ρ σ : Ren} {m : Nat} (hm : ∀ b l, σ b = some l → b < m)
include hm
theorem Base.restrict {v u u' : Value} (h : Base ρ v u) (h' : Base σ v u') : Base (ρ.lt m) v u := by
  have key : ∀ a : Addr, (∃ l, σ a.block = some l) → ∀ l, ρ a.block = some l → (ρ.lt m) a.block = some l := fun a ⟨l', h1⟩ l h2 => Ren.lt_some.2 ⟨hm _ _ h1, h2⟩
  cases h with
  | flat h => exact .flat h
  | ptr h => cases h' with
    | flat h' => simp [flat1] at h'
    | ptr h' => exact .ptr (key _ ⟨_, h'⟩ _ h)
  | slice h1 h2 h3 h4 h5 => cases h' with
    | flat h' => simp [flat1] at h'
    | slice h' => exact .slice (key _ ⟨_, h'⟩ _ h1) h2 h3 h4 h5
    | sliceEnd h' => exact .slice (key _ ⟨_, h'⟩ _ h1) h2 h3 h4 h5
    | sliceX h' => exact .slice (key _ ⟨_, h'⟩ _ h1) h2 h3 h4 h5
  | sliceEnd h1 => cases h' with
    | flat h' => simp [flat1] at h'
    | slice h' => exact .sliceEnd (key _ ⟨_, h'⟩ _ h1)
    | sliceEnd h' => exact .sliceEnd (key _ ⟨_, h'⟩ _ h1)
    | sliceX h' => exact .sliceEnd (key _ ⟨_, h'⟩ _ h1)
  | sliceX h1 h2 h3 => cases h' with
    | flat h' => simp [flat1] at h'
    | slice h' => exact .sliceX (key _ ⟨_, h'⟩ _ h1) h2 h3
    | sliceEnd h' => exact .sliceX (key _ ⟨_, h'⟩ _ h1) h2 h3
    | sliceX h' => exact .sliceX (key _ ⟨_, h'⟩ _ h1) h2 h3
omit hm in
theorem All2.restrict {R R' S : Value → Value → Prop} (hs : ∀ v u u', R v u → R' v u' → S v u) {x y z : List Value} (h : All2 R x y) (h' : All2 R' x z) : All2 S x y := by
  induction h generalizing z with
  | nil => exact .nil
  | cons h t ih => cases h' with
    | cons h' t' => exact .cons (hs _ _ _ h h') (ih t')
theorem CRel.restrict {v u u' : Value} (h : CRel ρ v u) (h' : CRel σ v u') : CRel (ρ.lt m) v u := by
  cases h with
  | base h => cases h' with
    | base h' => exact .base (h.restrict hm h')
    | func _ _ => cases h with
      | flat h => simp [flat1] at h
    | yield _ => cases h with
      | flat h => simp [flat1] at h
  | yield h1 => cases h' with
    | base h' => cases h' with
      | flat h' => simp [flat1] at h'
    | yield h1' => exact .yield (Ren.lt_some.2 ⟨hm _ _ h1', h1⟩)
  | func h1 h2 => cases h' with
    | base h' => cases h' with
      | flat h' => simp [flat1] at h'
    | func h1' h2' => exact .func (All2.restrict (S := Base (ρ.lt m)) (fun _ _ _ a b => Base.restrict hm a b) h1 h1') (All2.restrict (S := Base (ρ.lt m)) (fun _ _ _ a b => Base.restrict hm a b) h2 h2')
theorem VRel1.restrict {v u u' : Value} (h : VRel1 ρ v u) (h' : VRel1 σ v u') : VRel1 (ρ.lt m) v u := by
  cases h with
  | cell h => cases h' with
    | cell h' => exact .cell (h.restrict hm h')
    | agg h' => cases h with
      | base h => cases h with
        | flat h => simp [flat1] at h
  | agg h => cases h' with
    | cell h' => cases h' with
      | base h' => cases h' with
        | flat h' => simp [flat1] at h'
    | agg h' => exact .agg (All2.restrict (S := CRel (ρ.lt m)) (fun _ _ _ a b => CRel.restrict hm a b) h h')
theorem VRel.restrict {v u u' : Value} (h : VRel ρ v u) (h' : VRel σ v u') : VRel (ρ.lt m) v u := by
  cases h with
  | one h => cases h' with
    | one h' => exact .one (h.restrict hm h')
    | tuple h' => cases h with
      | cell h => cases h with
        | base h => cases h with
          | flat h => simp [flat1] at h
  | tuple h => cases h' with
    | one h' => cases h' with
      | cell h' => cases h' with
        | base h' => cases h' with
          | flat h' => simp [flat1] at h'
    | tuple h' => exact .tuple (All2.restrict (S := VRel1 (ρ.lt m)) (fun _ _ _ a b => VRel1.restrict hm a b) h h')
end
end Go.Ab
namespace Go.Ab

theorem VRel.inv_bool {ρ : Ren} {b : Bool} {v' : Value} (h : VRel ρ (.bool b) v') : v' = .bool b := h.flat_eq rfl
theorem VRel.inv_int {ρ : Ren} {k : IntKind} {n : Int} {v' : Value} (h : VRel ρ (.int k n) v') : v' = .int k n := h.flat_eq rfl
theorem VRel.inv_string {ρ : Ren} {s : ByteArray} {v' : Value} (h : VRel ρ (.string s) v') : v' = .string s := h.flat_eq rfl
theorem VRel.inv_ptr {ρ : Ren} {a : Addr} {v' : Value} (h : VRel ρ (.pointer (some a)) v') : ∃ l, ρ a.block = some l ∧ v' = .pointer (some ⟨l.blk, l.off + a.off, none⟩) := by
  cases h with
  | one h => cases h with
    | cell h => cases h with
      | base h => cases h with
        | flat h => simp [flat1] at h
        | ptr h => exact ⟨_, h, rfl⟩
theorem VRel.inv_slice {ρ : Ren} {a : Addr} {n cap : Nat} {v' : Value} (h : VRel ρ (.slice (some a) n cap) v') :
    (∃ l cap', ρ a.block = some l ∧ a.spot = some (l.sz + 1) ∧ n ≤ cap ∧ cap ≤ cap' ∧ l.off + a.off + cap' * l.sz = l.lim ∧ v' = .slice (some ⟨l.blk, l.off + a.off, none⟩) n cap') ∨
    (∃ l a', ρ a.block = some l ∧ n = 0 ∧ cap = 0 ∧ v' = .slice (some a') 0 0) ∨
    (∃ l, ρ a.block = some l ∧ a.spot = some 0 ∧ n ≤ cap ∧ v' = .slice (some ⟨l.blk, l.off + a.off, none⟩) n cap) := by
  cases h with
  | one h => cases h with
    | cell h => cases h with
      | base h => cases h with
        | flat h => simp [flat1] at h
        | slice h1 h2 h3 h4 h5 => exact .inl ⟨_, _, h1, h2, h3, h4, h5, rfl⟩
        | sliceEnd h1 => exact .inr (.inl ⟨_, _, h1, rfl, rfl, rfl⟩)
        | sliceX h1 h2 h3 => exact .inr (.inr ⟨_, h1, h2, h3, rfl⟩)
theorem VRel.inv_nilslice {ρ : Ren} {n cap : Nat} {v' : Value} (h : VRel ρ (.slice none n cap) v') : n = 0 ∧ cap = 0 ∧ v' = .slice none 0 0 := by
  cases h with
  | one h => cases h with
    | cell h => cases h with
      | base h => cases h with
        | flat h =>
          unfold flat1 at h
          split at h <;> simp_all
theorem VRel.inv_agg {ρ : Ren} {cs : Array Value} {v' : Value} (h : VRel ρ (.agg cs) v') : ∃ cs', v' = .agg cs' ∧ All2 (CRel ρ) cs.toList cs'.toList := by
  cases h with
  | one h => cases h with
    | cell h => cases h with
      | base h => cases h with
        | flat h => simp [flat1] at h
    | agg h => exact ⟨_, rfl, h⟩
theorem VRel.inv_tuple {ρ : Ren} {cs : Array Value} {v' : Value} (h : VRel ρ (.tuple cs) v') : ∃ cs', v' = .tuple cs' ∧ All2 (VRel1 ρ) cs.toList cs'.toList := by
  cases h with
  | one h => cases h with
    | cell h => cases h with
      | base h => cases h with
        | flat h => simp [flat1] at h
  | tuple h => exact ⟨_, rfl, h⟩
theorem VRel.inv_func {ρ : Ren} {f : FuncId} {a c : Array Value} {v' : Value} (h : VRel ρ (.func (.func f) a c) v') :
    ∃ a' c', v' = .func (.func f) a' c' ∧ All2 (Base ρ) a.toList a'.toList ∧ All2 (Base ρ) c.toList c'.toList := by
  cases h with
  | one h => cases h with
    | cell h => cases h with
      | base h => cases h with
        | flat h => simp [flat1] at h
      | func h1 h2 => exact ⟨_, _, rfl, h1, h2⟩
theorem VRel.inv_yield {ρ : Ren} {b : Nat} {v' : Value} (h : VRel ρ (.func (.yield b) #[] #[]) v') :
    ∃ l, ρ b = some l ∧ v' = .func (.yield l.blk) #[] #[] := by
  cases h with
  | one h => cases h with
    | cell h => cases h with
      | base h => cases h with
        | flat h => simp [flat1] at h
      | yield h1 => exact ⟨_, h1, rfl⟩
theorem VRel.of_ptr {ρ : Ren} {a : Addr} {l : Loc} (h : ρ a.block = some l) : VRel ρ (.pointer (some a)) (.pointer (some ⟨l.blk, l.off + a.off, none⟩)) := .one (.cell (.base (.ptr h)))

theorem addr_add (b o n : Nat) : (⟨b, o, none⟩ : Addr).add n = ⟨b, o + n, none⟩ := by
  unfold Addr.add
  split <;> simp_all

def pureOp : Op → Bool
  | .move _ | .assign _ | .pick .. | .build .. | .nilCheck _ | .binOp .. | .unOp .. | .convert .. | .makeFunc .. | .slice .. | .fieldAddr .. | .field .. | .indexAddr .. | .index .. | .extract .. => true
  | .call { callee := .builtin .len, .. } | .call { callee := .builtin .max, .. } | .call { callee := .builtin .min, .. } => true
  | _ => false

def PureSim (P : Program) (ev : Operand → Value) (op : Op) (v : Value) : Prop :=
  ∀ (ρ : Ren) (ev' : Operand → Value), (∀ x ∈ op.operands, VRel ρ (ev x) (ev' x)) →
    ∃ v', VRel ρ v v' ∧ ∀ (o : Oper) (w : World), o.op = op → (execOp ev' o).run P w = .ok (.value v') w

section
variable {P : Program} {ev : Operand → Value} {v : Value}

theorem run_sizeA {P : Program} {t : TypeId} {n : Nat} (h : sizeA P t = some n) (w : World) : (sizeOf t).run P w = .ok n w := by
  unfold sizeA at h
  cases hi : P.info? t with
  | none => simp [hi] at h
  | some i => simp [hi] at h; simp [sizeOf, typeInfo, hi, h]
theorem run_zeroA {P : Program} {t : TypeId} {z : Value} (h : zeroA P t = some z) (w : World) : (zeroValue t).run P w = .ok z w := by
  unfold zeroA at h
  cases hi : P.info? t with
  | none => simp [hi] at h
  | some i => simp [hi] at h; simp [zeroValue, typeInfo, hi, h]
theorem run_isAggA {P : Program} {t : TypeId} {b : Bool} (h : isAggA P t = some b) (w : World) : (isAgg t).run P w = .ok b w := by
  unfold isAggA at h
  cases hu : P.underlying t with
  | none => simp [hu] at h
  | some d => cases d <;> simp_all [isAgg, underlying]
theorem run_elemA {P : Program} {t e : TypeId} (h : elemA P t = some e) : P.underlying t = some (.slice e) := by
  unfold elemA at h; split at h <;> simp_all
theorem run_arrayA {P : Program} {t e : TypeId} {n : Nat} (h : arrayA P t = some (n, e)) : P.underlying t = some (.array n e) := by
  unfold arrayA at h; split at h <;> simp_all
theorem run_fieldA {P : Program} {t : TypeId} {f off : Nat} {ft : TypeId} (h : fieldA P t f = some (off, ft)) :
    ∃ fs x, P.underlying t = some (.struct fs) ∧ fs[f]? = some x ∧ x.offset = off ∧ x.type = ft := by
  unfold fieldA fieldsA at h
  cases hu : P.underlying t with
  | none => simp [hu] at h
  | some d => cases d <;> simp [hu] at h
              rename_i fs
              cases hf : fs[f]? with
              | none => simp [hf] at h
              | some x => simp [hf] at h; exact ⟨fs, x, rfl, hf, h.1, h.2⟩

theorem sim_move (x : Operand) : PureSim P ev (.move x) (ev x) := fun ρ ev' he =>
  ⟨ev' x, he x (by simp [Op.operands]), fun o w ho => by simp [execOp, ho]⟩
theorem sim_assign (x : Operand) : PureSim P ev (.assign x) (ev x) := fun ρ ev' he =>
  ⟨ev' x, he x (by simp [Op.operands]), fun o w ho => by simp [execOp, ho]⟩
theorem sim_pick {c a b : Operand} {t : Bool} (hc : ev c = .bool t) : PureSim P ev (.pick c a b) (if t then ev a else ev b) := fun ρ ev' he => by
  have h1 := he c (by simp [Op.operands])
  have h2 := he a (by simp [Op.operands])
  have h3 := he b (by simp [Op.operands])
  rw [hc] at h1
  have := h1.inv_bool
  refine ⟨if t then ev' a else ev' b, ?_, fun o w ho => by simp [execOp, ho, this, asBool]⟩
  cases t <;> simp [h2, h3]
theorem sim_nilCheck {x : Operand} {a : Addr} (hx : ev x = .pointer (some a)) : PureSim P ev (.nilCheck x) (.pointer (some a)) := fun ρ ev' he => by
  have h1 := he x (by simp [Op.operands])
  rw [hx] at h1
  obtain ⟨l, hl, e⟩ := h1.inv_ptr
  exact ⟨ev' x, h1, fun o w ho => by simp [execOp, ho, e]⟩
theorem sim_nilCheckF {x : Operand} {f : FuncId} {a c : Array Value} (hx : ev x = .func (.func f) a c) : PureSim P ev (.nilCheck x) (.func (.func f) a c) := fun ρ ev' he => by
  have h1 := he x (by simp [Op.operands])
  rw [hx] at h1
  obtain ⟨a', c', e, _⟩ := h1.inv_func
  exact ⟨ev' x, h1, fun o w ho => by simp [execOp, ho, e]⟩

theorem pureV_run {s : Sem Value} {v : Value} (h : pureV P s = some v) (w : World) : s.run P w = .ok v w ∧ flat v = true := by
  unfold pureV at h
  cases hp : pureRun P s with
  | none => simp [hp] at h
  | some u =>
    simp [hp] at h
    obtain ⟨h1, rfl⟩ := h
    exact ⟨pureRun_run hp w, h1⟩

def EqRuns (P : Program) (t : TypeId) (x y : Value) (b : Bool) : Prop := ∀ w, (∀ d, (Op.equalIn (d + 1) t x y).run P w = .ok b w)
theorem EqRuns.bin {t : TypeId} {x y : Value} {b : Bool} (h : EqRuns P t x y b) (h1 : ∀ op ox oy w, (eqGuard op t ox oy x y).run P w = .ok () w)
    (h2 : binOp .eql t x y = (do pure (.bool (← Op.equal t x y)))) (h3 : binOp .neq t x y = (do pure (.bool (!(← Op.equal t x y))))) (ox oy : Operand) (w : World) :
    (do eqGuard .eql t ox oy x y; binOp .eql t x y).run P w = .ok (.bool b) w ∧ (do eqGuard .neq t ox oy x y; binOp .neq t x y).run P w = .ok (.bool (!b)) w := by
  have e : (Op.equal t x y).run P w = .ok b w := h w 9999
  constructor
  · simp only [Sem.run_bind, h1, Result.andThen_ok, h2, e, Sem.run_pure]
  · simp only [Sem.run_bind, h1, Result.andThen_ok, h3, e, Sem.run_pure]

theorem nil_runs {ρ : Ren} {t : TypeId} {x y x' y' : Value} {b : Bool} (h : nilEq x y = some b) (hx : VRel ρ x x') (hy : VRel ρ y y') (ht : nilType P t x = true) (ox oy : Operand) (w : World) :
    (do eqGuard .eql t ox oy x' y'; binOp .eql t x' y').run P w = .ok (.bool b) w ∧ (do eqGuard .neq t ox oy x' y'; binOp .neq t x' y').run P w = .ok (.bool (!b)) w := by
  unfold nilType at ht
  unfold nilEq at h
  split at h
  · obtain ⟨l, _, rfl⟩ := hx.inv_ptr
    have := hy.flat_eq rfl; subst this
    cases hu : P.underlying t with
    | none => simp [hu] at ht
    | some d =>
      cases d <;> simp [hu] at ht
      simp at h; subst h
      exact EqRuns.bin (fun w d => by simp [Op.equalIn, underlying, hu]) (fun op _ _ w => by cases op <;> simp [eqGuard]) rfl rfl ox oy w
  · obtain ⟨l, _, rfl⟩ := hy.inv_ptr
    have := hx.flat_eq rfl; subst this
    cases hu : P.underlying t with
    | none => simp [hu] at ht
    | some d =>
      cases d <;> simp [hu] at ht
      simp at h; subst h
      exact EqRuns.bin (fun w d => by simp [Op.equalIn, underlying, hu]) (fun op _ _ w => by cases op <;> simp [eqGuard]) rfl rfl ox oy w
  · obtain ⟨-, -, rfl⟩ := hy.inv_nilslice
    cases hu : P.underlying t with
    | none => simp [hu] at ht
    | some d =>
      cases d <;> simp [hu] at ht
      simp at h; subst h
      rcases hx.inv_slice with ⟨l, c', _, _, _, _, _, rfl⟩ | ⟨l, a', _, _, _, rfl⟩ | ⟨l, _, _, _, rfl⟩ <;>
      exact EqRuns.bin (fun w d => by simp [Op.equalIn, underlying, hu]) (fun op _ _ w => by cases op <;> simp [eqGuard]) rfl rfl ox oy w
  · obtain ⟨-, -, rfl⟩ := hx.inv_nilslice
    cases hu : P.underlying t with
    | none => simp [hu] at ht
    | some d =>
      cases d <;> simp [hu] at ht
      simp at h; subst h
      rcases hy.inv_slice with ⟨l, c', _, _, _, _, _, rfl⟩ | ⟨l, a', _, _, _, rfl⟩ | ⟨l, _, _, _, rfl⟩ <;>
      exact EqRuns.bin (fun w d => by simp [Op.equalIn, underlying, hu]) (fun op _ _ w => by cases op <;> simp [eqGuard]) rfl rfl ox oy w
  · have := hy.flat_eq rfl; subst this
    cases hu : P.underlying t with
    | none => simp [hu] at ht
    | some d =>
      cases d <;> simp [hu] at ht
      simp at h; subst h
      cases hx with
      | one h => cases h with
        | cell h => cases h with
          | base h => cases h with
            | flat h => simp [flat1] at h
          | yield h1 =>
            exact EqRuns.bin (fun w d => by simp [Op.equalIn, underlying, hu]) (fun op _ _ w => by cases op <;> simp [eqGuard]) rfl rfl ox oy w
          | func h1 h2 =>
            exact EqRuns.bin (fun w d => by simp [Op.equalIn, underlying, hu]) (fun op _ _ w => by cases op <;> simp [eqGuard]) rfl rfl ox oy w
  · have := hx.flat_eq rfl; subst this
    cases hu : P.underlying t with
    | none => simp [hu] at ht
    | some d =>
      cases d <;> simp [hu] at ht
      simp at h; subst h
      cases hy with
      | one h => cases h with
        | cell h => cases h with
          | base h => cases h with
            | flat h => simp [flat1] at h
          | yield h1 =>
            exact EqRuns.bin (fun w d => by simp [Op.equalIn, underlying, hu]) (fun op _ _ w => by cases op <;> simp [eqGuard]) rfl rfl ox oy w
          | func h1 h2 =>
            exact EqRuns.bin (fun w d => by simp [Op.equalIn, underlying, hu]) (fun op _ _ w => by cases op <;> simp [eqGuard]) rfl rfl ox oy w
  · cases hx with
    | one h => cases h with
      | cell h => cases h with
        | base h => cases h with
          | flat h => simp [flat1] at h
  · cases hy with
    | one h => cases h with
      | cell h => cases h with
        | base h => cases h with
          | flat h => simp [flat1] at h
  · simp at h

theorem sim_bin {op : BinOp} {t yt : TypeId} {x y : Operand} (h : binA P op t x y (ev x) (ev y) = some v) : PureSim P ev (.binOp op t x y yt) v := fun ρ ev' he => by
  have hx := he x (by simp [Op.operands])
  have hy := he y (by simp [Op.operands])
  unfold binA at h
  split at h
  · rename_i hf
    simp only [Bool.and_eq_true] at hf
    have e1 := hx.flat_eq hf.1
    have e2 := hy.flat_eq hf.2
    refine ⟨v, VRel.of_flat (pureV_run h default).2, fun o w ho => ?_⟩
    have := (pureV_run h w).1
    simp only [execOp, ho, e1, e2]
    rw [Sem.run_bind, this]
    rfl
  · split at h
    · rename_i ht
      split at h
      · rename_i b hb
        simp at h; subst h
        refine ⟨.bool b, VRel.of_flat rfl, fun o w ho => ?_⟩
        have k := (nil_runs hb hx hy ht x y w).1
        simp only [execOp, ho]
        rw [Sem.run_bind, k]; rfl
      · rename_i b hb
        simp at h; subst h
        refine ⟨.bool (!b), VRel.of_flat rfl, fun o w ho => ?_⟩
        have k := (nil_runs hb hx hy ht x y w).2
        simp only [execOp, ho]
        rw [Sem.run_bind, k]; rfl
      · simp at h
    · simp at h

theorem sim_un {op : UnOp} {t : TypeId} {x : Operand} (hf : flat (ev x) = true) (h : pureV P (Op.unary op (ev x)) = some v) : PureSim P ev (.unOp op t x) v := fun ρ ev' he => by
  have hx := (he x (by simp [Op.operands])).flat_eq hf
  exact ⟨v, VRel.of_flat (pureV_run h default).2, fun o w ho => by simp [execOp, ho, hx, (pureV_run h w).1]⟩
theorem sim_convert {s d : TypeId} {x : Operand} (hf : flat (ev x) = true) (h : pureV P (convert s d (ev x)) = some v) : PureSim P ev (.convert s d x) v := fun ρ ev' he => by
  have hx := (he x (by simp [Op.operands])).flat_eq hf
  exact ⟨v, VRel.of_flat (pureV_run h default).2, fun o w ho => by simp [execOp, ho, hx, (pureV_run h w).1]⟩

theorem VRel.toBase {ρ : Ren} {v v' : Value} (h : VRel ρ v v') (hb : isBase v = true) : Base ρ v v' := by
  cases h with
  | one h => cases h with
    | cell h => cases h with
      | base h => exact h
      | func _ _ => simp [isBase, flat1] at hb
      | yield _ => simp [isBase, flat1] at hb
    | agg h => simp [isBase, flat1] at hb
  | tuple h => simp [isBase, flat1] at hb
theorem sim_makeFunc {f : FuncId} {first captured : Array Operand} (h0 : (first ++ captured).toList.all (fun x => isBase (ev x)) = true) : PureSim P ev (.makeFunc (.func f) first captured) (.func (.func f) (first.map ev) (captured.map ev)) := fun ρ ev' he => by
  have h1 : ∀ x ∈ first ++ captured, ∀ ρ v', VRel ρ (ev x) v' → Base ρ (ev x) v' := fun x hx ρ v' hv => hv.toBase (List.all_eq_true.1 h0 x (Array.mem_toList_iff.2 hx))
  refine ⟨.func (.func f) (first.map ev') (captured.map ev'), .one (.cell (.func ?_ ?_)), fun o w ho => by simp [execOp, ho, Instr.makeFunc]⟩
  · simp only [Array.toList_map]
    exact All2.mapBoth fun x hx => h1 x (by simp at hx ⊢; exact .inl hx) _ _ (he x (by simp [Op.operands]; simp at hx; exact .inl hx))
  · simp only [Array.toList_map]
    exact All2.mapBoth fun x hx => h1 x (by simp at hx ⊢; exact .inr hx) _ _ (he x (by simp [Op.operands]; simp at hx; exact .inr hx))

theorem sim_fieldAddr {s : TypeId} {x : Operand} {f off ft n : Nat} {a : Addr} (hx : ev x = .pointer (some a)) (hf : fieldA P s f = some (off, ft)) (hs : sizeA P ft = some (n + 1)) :
    PureSim P ev (.fieldAddr s x f) (.pointer (some ⟨a.block, a.off + off, none⟩)) := fun ρ ev' he => by
  have h1 := he x (by simp [Op.operands])
  rw [hx] at h1
  obtain ⟨l, hl, e⟩ := h1.inv_ptr
  obtain ⟨fs, fd, hu, hfd, rfl, rfl⟩ := run_fieldA hf
  refine ⟨_, VRel.of_ptr (a := ⟨a.block, a.off + fd.offset, none⟩) hl, fun o w ho => ?_⟩
  simp [execOp, ho, e, Instr.fieldAt, underlying, hu, hfd, Instr.sureAddr, fieldPlace, run_sizeA hs, addr_add, Nat.add_assoc]

theorem part_sim {ρ : Ren} {ft : TypeId} {cs cs' : Array Value} {off : Nat} (h : partA P ft cs off = some v) (hc : All2 (CRel ρ) cs.toList cs'.toList) :
    ∃ v', VRel ρ v v' ∧ ∀ w, (part ft cs' off).run P w = .ok v' w := by
  unfold partA at h
  split at h
  · rename_i hg
    split at h
    · rename_i n hn
      simp at h; subst h
      refine ⟨.agg (cs'.extract off (off + n)), .one (.agg ?_), fun w => by simp [part, run_isAggA hg, run_sizeA hn]⟩
      simp only [Array.toList_extract, List.extract_eq_take_drop]
      exact (hc.drop _).take _
    · simp at h
  · rename_i hg
    have : cs.toList[off]? = some v := by simpa using h
    obtain ⟨v', hv', hr⟩ := hc.get off v this
    refine ⟨v', .one (.cell hr), fun w => ?_⟩
    have : cs'[off]? = some v' := by simpa using hv'
    simp [part, run_isAggA hg, this]
  · simp at h

theorem sim_field {t : TypeId} {x : Operand} {f off ft : Nat} {cs : Array Value} (hx : ev x = .agg cs) (hf : fieldA P t f = some (off, ft)) (h : partA P ft cs off = some v) : PureSim P ev (.field t x f) v := fun ρ ev' he => by
  have h1 := he x (by simp [Op.operands])
  rw [hx] at h1
  obtain ⟨cs', e, hc⟩ := h1.inv_agg
  obtain ⟨fs, fd, hu, hfd, rfl, rfl⟩ := run_fieldA hf
  obtain ⟨v', hv, hr⟩ := part_sim h hc
  exact ⟨v', hv, fun o w ho => by simp [execOp, ho, e, Instr.field, underlying, hu, hfd, asAgg, hr]⟩

theorem sim_extract {x : Operand} {i : Nat} {vs : Array Value} (hx : ev x = .tuple vs) (h : vs[i]? = some v) : PureSim P ev (.extract x i) v := fun ρ ev' he => by
  have h1 := he x (by simp [Op.operands])
  rw [hx] at h1
  obtain ⟨vs', e, hc⟩ := h1.inv_tuple
  obtain ⟨v', hv', hr⟩ := hc.get i v (by simpa using h)
  have : vs'[i]? = some v' := by simpa using hv'
  exact ⟨v', .one hr, fun o w ho => by simp [execOp, ho, e, Instr.extract, this]⟩

theorem sim_indexAddr {t : TypeId} {x i : Operand} (h : indexAddrA P t (ev x) (ev i) = some v) : PureSim P ev (.indexAddr t x i) v := fun ρ ev' he => by
  have hx := he x (by simp [Op.operands])
  have hi := he i (by simp [Op.operands])
  unfold indexAddrA at h
  split at h
  · rename_i k n hin
    rw [hin] at hi
    have ei := hi.inv_int
    split at h
    · rename_i a m cap hxx
      rw [hxx] at hx
      split at h
      · rename_i e hel
        have hu := run_elemA hel
        split at h
        · rename_i sz hsz
          split at h
          · rename_i hb
            simp at h; subst h
            rcases hx.inv_slice with ⟨l, c', hl, _, _, _, _, ex⟩ | ⟨l, a', _, h0, _, ex⟩ | ⟨l, hl, _, _, ex⟩
            · exact ⟨_, VRel.of_ptr (a := ⟨a.block, a.off + n.toNat * sz, none⟩) hl, fun o w ho => by
                simp [execOp, ho, ex, ei, Instr.indexAt, asIntOf, underlying, hu, hb, run_sizeA hsz, addr_add, Nat.add_assoc]⟩
            · omega
            · exact ⟨_, VRel.of_ptr (a := ⟨a.block, a.off + n.toNat * sz, none⟩) hl, fun o w ho => by
                simp [execOp, ho, ex, ei, Instr.indexAt, asIntOf, underlying, hu, hb, run_sizeA hsz, addr_add, Nat.add_assoc]⟩
          · simp at h
        · simp at h
      · simp at h
    · rename_i a hxx
      rw [hxx] at hx
      obtain ⟨l, hl, ex⟩ := hx.inv_ptr
      split at h
      · rename_i m e har
        have hu := run_arrayA har
        split at h
        · rename_i sz hsz
          split at h
          · rename_i hb
            simp at h; subst h
            exact ⟨_, VRel.of_ptr (a := ⟨a.block, a.off + n.toNat * sz, none⟩) hl, fun o w ho => by
                simp [execOp, ho, ex, ei, Instr.indexAt, asIntOf, underlying, hu, hb, Instr.sureAddr, run_sizeA hsz, addr_add, Nat.add_assoc]⟩
          · simp at h
        · simp at h
      · simp at h
    · simp at h
  · simp at h

theorem sim_index {t : TypeId} {x i : Operand} (h : indexA P t (ev x) (ev i) = some v) : PureSim P ev (.index t x i) v := fun ρ ev' he => by
  have hx := he x (by simp [Op.operands])
  have hi := he i (by simp [Op.operands])
  unfold indexA at h
  split at h
  · rename_i k n cs hin hxx
    rw [hin] at hi
    rw [hxx] at hx
    have ei := hi.inv_int
    obtain ⟨cs', ex, hc⟩ := hx.inv_agg
    split at h
    · rename_i m e har
      have hu := run_arrayA har
      split at h
      · rename_i sz hsz
        split at h
        · rename_i hb
          obtain ⟨v', hv, hr⟩ := part_sim h hc
          exact ⟨v', hv, fun o w ho => by simp [execOp, ho, ex, ei, Instr.index, asIntOf, underlying, hu, hb, run_sizeA hsz, hr]⟩
        · simp at h
      · simp at h
    · simp at h
  · rename_i k n s hin hxx
    rw [hin] at hi
    rw [hxx] at hx
    have ei := hi.inv_int
    have ex := hx.inv_string
    split at h
    · rename_i hu
      split at h
      · rename_i h0
        cases hs : s[n.toNat]? with
        | none => simp [hs] at h
        | some b =>
          simp [hs] at h; subst h
          exact ⟨_, VRel.of_flat rfl, fun o w ho => by simp [execOp, ho, ex, ei, Instr.index, asIntOf, underlying, hu, h0, hs]⟩
      · simp at h
    · simp at h
  · simp at h

theorem sim_len_slice {args : Array Operand} {ts : Array TypeId} {x : Operand} {t e : TypeId} {r : List TypeId} {a : Option Addr} {n c : Nat} (ha : args.toList = [x]) (ht : ts.toList = t :: r) (hx : ev x = .slice a n c) (hu : P.underlying t = some (.slice e)) :
    PureSim P ev (.call { callee := .builtin .len, args := args, argTypes := ts }) (.int .i64 n) := fun ρ ev' he => by
  have hx1 := he x (by simp [Op.operands, Call.operands, ← Array.mem_toList_iff, ha])
  rw [hx] at hx1
  have ea : args = #[x] := by rw [← Array.toList_inj]; exact ha
  have et : ts = (t :: r).toArray := by rw [← Array.toList_inj]; simpa using ht
  have : ∃ a' c', ev' x = .slice a' n c' := by
    cases a with
    | none => obtain ⟨rfl, _, e⟩ := hx1.inv_nilslice; exact ⟨_, _, e⟩
    | some a =>
      rcases hx1.inv_slice with ⟨l, c', _, _, _, _, _, e⟩ | ⟨l, a', _, rfl, _, e⟩ | ⟨l, _, _, _, e⟩ <;> exact ⟨_, _, e⟩
  obtain ⟨a', c', e⟩ := this
  refine ⟨_, VRel.of_flat rfl, fun o w ho => ?_⟩
  simp [execOp, ho, ea, et, resolve, invoke, builtin, Builtin.len_, underlying, hu, e, goInt]
theorem sim_len_string {args : Array Operand} {ts : Array TypeId} {x : Operand} {t : TypeId} {r : List TypeId} {s : ByteArray} (ha : args.toList = [x]) (ht : ts.toList = t :: r) (hx : ev x = .string s) (hu : P.underlying t = some .string) :
    PureSim P ev (.call { callee := .builtin .len, args := args, argTypes := ts }) (.int .i64 s.size) := fun ρ ev' he => by
  have hx1 := he x (by simp [Op.operands, Call.operands, ← Array.mem_toList_iff, ha])
  rw [hx] at hx1
  have ea : args = #[x] := by rw [← Array.toList_inj]; exact ha
  have et : ts = (t :: r).toArray := by rw [← Array.toList_inj]; simpa using ht
  refine ⟨_, VRel.of_flat rfl, fun o w ho => ?_⟩
  simp [execOp, ho, ea, et, resolve, invoke, builtin, Builtin.len_, underlying, hu, hx1.inv_string, goInt]
theorem map_flat_eq {ρ : Ren} {ev' : Operand → Value} {l : List Operand} (he : ∀ x ∈ l, VRel ρ (ev x) (ev' x)) (hf : (l.map ev).all flat1 = true) : l.map ev' = l.map ev := by
  refine List.map_congr_left fun x hx => ?_
  refine (he x hx).flat_eq ?_
  have : flat1 (ev x) = true := by
    simp only [List.all_map, List.all_eq_true] at hf
    exact hf x hx
  unfold flat
  split
  · rename_i cs hcs; rw [hcs] at this; simp [flat1] at this
  · exact this
theorem sim_max {args : Array Operand} {ts : Array TypeId} (hf : (args.toList.map ev).all flat1 = true) (h : pureV P (Builtin.max_ ts 0 (args.toList.map ev).toArray) = some v) :
    PureSim P ev (.call { callee := .builtin .max, args := args, argTypes := ts }) v := fun ρ ev' he => by
  have e := map_flat_eq (l := args.toList) (ev' := ev') (fun x hx => he x (Array.mem_toList_iff.1 (by simp only [Op.operands, Call.operands, Array.toList_append]; exact List.mem_append_right _ hx))) hf
  have e' : args.map ev' = (args.toList.map ev).toArray := by rw [← Array.toList_inj, Array.toList_map, e]
  refine ⟨v, VRel.of_flat (pureV_run h default).2, fun o w ho => ?_⟩
  have := (pureV_run h w).1
  simp [execOp, ho, resolve, invoke, builtin, e']
  have h2 : (Builtin.max_ ts o.type (args.toList.map ev).toArray).run P w = .ok v w := this
  rw [h2]; rfl
theorem sim_min {args : Array Operand} {ts : Array TypeId} (hf : (args.toList.map ev).all flat1 = true) (h : pureV P (Builtin.min_ ts 0 (args.toList.map ev).toArray) = some v) :
    PureSim P ev (.call { callee := .builtin .min, args := args, argTypes := ts }) v := fun ρ ev' he => by
  have e := map_flat_eq (l := args.toList) (ev' := ev') (fun x hx => he x (Array.mem_toList_iff.1 (by simp only [Op.operands, Call.operands, Array.toList_append]; exact List.mem_append_right _ hx))) hf
  have e' : args.map ev' = (args.toList.map ev).toArray := by rw [← Array.toList_inj, Array.toList_map, e]
  refine ⟨v, VRel.of_flat (pureV_run h default).2, fun o w ho => ?_⟩
  have := (pureV_run h w).1
  simp [execOp, ho, resolve, invoke, builtin, e']
  have h2 : (Builtin.min_ ts o.type (args.toList.map ev).toArray).run P w = .ok v w := this
  rw [h2]; rfl
end
end Go.Ab
namespace Go.Ab
section
variable {P : Program} {ev : Operand → Value} {v : Value}

theorem run_bounds {isSlice : Bool} {len cap : Nat} {lo hi mx : Option Value} {lo' hi' mx' : Option Int} (h1 : intOf? lo = some lo') (h2 : intOf? hi = some hi') (h3 : intOf? mx = some mx')
    (c1 : 0 ≤ mx'.getD cap) (c1' : mx'.getD cap ≤ cap) (c2 : 0 ≤ hi'.getD len) (c2' : mx' = none → hi' ≠ none → hi'.getD len ≤ cap) (c2'' : mx' ≠ none → hi'.getD len ≤ mx'.getD cap) (c3 : 0 ≤ lo'.getD 0) (c3' : lo'.getD 0 ≤ hi'.getD len) (c4 : mx' = none ∨ hi' ≠ none) (w : World) :
    (Instr.sliceBounds isSlice len cap lo hi mx).run P w = .ok ((lo'.getD 0).toNat, (hi'.getD len).toNat, (mx'.getD cap).toNat) w := by
  have ints : ∀ {x : Option Value} {x' : Option Int}, intOf? x = some x' → (x = none ∧ x' = none) ∨ ∃ k n, x = some (.int k n) ∧ x' = some n := by
    intro x x' h
    unfold intOf? at h
    split at h
    · simp at h; exact .inl ⟨rfl, h.symm⟩
    · simp at h; exact .inr ⟨_, _, rfl, h.symm⟩
    · simp at h
  rcases ints h3 with ⟨rfl, rfl⟩ | ⟨k, m, rfl, rfl⟩ <;> rcases ints h2 with ⟨rfl, rfl⟩ | ⟨k2, m2, rfl, rfl⟩ <;> rcases ints h1 with ⟨rfl, rfl⟩ | ⟨k1, m1, rfl, rfl⟩ <;>
    simp at c1 c1' c2 c2' c2'' c3 c3' c4 <;> simp [Instr.sliceBounds, Instr.sliceBound, asIntOf, *] <;> first | omega | (rw [if_pos (by omega)]; simp; done) | (intro hh; omega) | (rw [if_pos (by omega)]; simp; intro hh; omega)

theorem intOf_map {lo : Option Operand} {ev' : Operand → Value} {ρ : Ren} {r : Option Int} (h : intOf? (lo.map ev) = some r) (he : ∀ x, lo = some x → VRel ρ (ev x) (ev' x)) : lo.map ev' = lo.map ev := by
  cases lo with
  | none => rfl
  | some x =>
    have := he x rfl
    unfold intOf? at h
    split at h
    · simp at *
    · rename_i hx
      simp at hx
      rw [hx] at this
      simp [hx, this.inv_int]
    · simp at h

theorem sim_slice {t : TypeId} {x : Operand} {lo hi mx : Option Operand} (h : sliceA P t (ev x) (lo.map ev) (hi.map ev) (mx.map ev) = some v) : PureSim P ev (.slice t x lo hi mx) v := fun ρ ev' he => by
  have hx := he x (by simp [Op.operands])
  unfold sliceA at h
  split at h
  rotate_left
  · simp at h
  rename_i lo' hi' mx' h1 h2 h3
  have e1 := intOf_map (ev' := ev') (ρ := ρ) h1 (fun y hy => he y (by simp [Op.operands, hy]))
  have e2 := intOf_map (ev' := ev') (ρ := ρ) h2 (fun y hy => he y (by simp [Op.operands, hy]))
  have e3 := intOf_map (ev' := ev') (ρ := ρ) h3 (fun y hy => he y (by simp [Op.operands, hy]))
  have hrun : ∀ (o : Oper) (w : World), o.op = .slice t x lo hi mx → ∀ r, (Instr.sliceAt t (ev' x) (lo.map ev) (hi.map ev) (mx.map ev)).run P w = .ok r w → (execOp ev' o).run P w = .ok (.value r) w := by
    intro o w ho r hr
    simp only [execOp, ho, e1, e2, e3]
    rw [Sem.run_bind, hr]; rfl
  split at h
  · rename_i a n cap hxx
    rw [hxx] at hx
    split at h
    rotate_left
    · simp at h
    rename_i e hel
    have hu := run_elemA hel
    split at h
    rotate_left
    · simp at h
    rename_i sz hsz
    simp only at h
    split at h
    rotate_left
    · simp at h
    rename_i hc
    obtain ⟨c1, c1', c2, c2', c3, c3', hsz0, c4, hncap⟩ := hc
    have hb : ∀ (cap' : Nat) w, cap ≤ cap' → (Instr.sliceBounds true n cap' (lo.map ev) (hi.map ev) (mx.map ev)).run P w = .ok ((lo'.getD 0).toNat, (hi'.getD n).toNat, (mx'.getD cap').toNat) w := by
      intro cap' w hcc
      refine run_bounds h1 h2 h3 ?_ ?_ c2 ?_ ?_ c3 (by omega) c4 w
      · cases mx' with
        | none => simp
        | some m => simpa using c1
      · cases mx' with
        | none => simp
        | some m => simp at c1' ⊢; omega
      · intro hm _; subst hm; simp at c2'; omega
      · intro hm
        cases mx' with
        | none => exact absurd rfl hm
        | some m => simp at c1 c2' ⊢; omega
    have hrun2 : ∀ (a' : Option Addr) (cap' : Nat) w, cap ≤ cap' → (Instr.sliceAt t (.slice a' n cap') (lo.map ev) (hi.map ev) (mx.map ev)).run P w =
        .ok (.slice (if (mx'.getD cap').toNat = (lo'.getD 0).toNat then a' else a'.map (·.add ((lo'.getD 0).toNat * sz))) ((hi'.getD n).toNat - (lo'.getD 0).toNat) ((mx'.getD cap').toNat - (lo'.getD 0).toNat)) w := by
      intro a' cap' w hcc
      simp [Instr.sliceAt, Instr.slice, underlying, hu, hb cap' w hcc, run_sizeA hsz]
    rcases hx.inv_slice with ⟨l, cap', hl, hsp, hn, hcc, hlim, ex⟩ | ⟨l, a', hl, rfl, rfl, ex⟩ | ⟨l, hl, hsp, hn, ex⟩
    · split at h
      · rename_i hsp2
        obtain ⟨_, rfl⟩ := hsp2
        simp at h; subst h
        simp only [Option.getD_none] at *
        by_cases hend : cap' = (lo'.getD 0).toNat
        · refine ⟨.slice (some ⟨l.blk, l.off + a.off, none⟩) ((hi'.getD n).toNat - (lo'.getD 0).toNat) (cap' - (lo'.getD 0).toNat), ?_, fun o w ho => hrun o w ho _ ?_⟩
          · have z1 : (hi'.getD n).toNat - (lo'.getD 0).toNat = 0 := by simp at c2'; omega
            have z2 : cap - (lo'.getD 0).toNat = 0 := by omega
            have z3 : cap' - (lo'.getD 0).toNat = 0 := by omega
            simp only [z1, z2, z3]
            exact .one (.cell (.base (.sliceEnd hl)))
          · rw [ex, hrun2 _ _ w hcc]
            have : (max (lo'.getD 0) 0).toNat = (lo'.getD 0).toNat := by omega
            simp [hend, this]
        · refine ⟨.slice (some ⟨l.blk, l.off + (a.off + (lo'.getD 0).toNat * sz), none⟩) ((hi'.getD n).toNat - (lo'.getD 0).toNat) (cap' - (lo'.getD 0).toNat), ?_, fun o w ho => hrun o w ho _ ?_⟩
          · have hz : l.sz = sz := by rw [hsp] at *; simp at *; omega
            refine .one (.cell (.base (.slice (a := ⟨a.block, a.off + (lo'.getD 0).toNat * sz, some (sz + 1)⟩) hl (by simp [hz]) (by simp at c2'; omega) (by omega) ?_)))
            show l.off + (a.off + (lo'.getD 0).toNat * sz) + (cap' - (lo'.getD 0).toNat) * l.sz = l.lim
            rw [hz] at hlim ⊢
            have : (lo'.getD 0).toNat ≤ cap' := by simp at c2'; omega
            rw [← hlim, Nat.sub_mul]
            have := Nat.mul_le_mul_right sz this
            omega
          · rw [ex, hrun2 _ _ w hcc]
            simp [hend, addr_add, Nat.add_assoc]
      · rename_i hsp2
        simp [hsp] at h
        obtain ⟨hmx, h⟩ := h
        obtain ⟨m, rfl⟩ := Option.ne_none_iff_exists'.1 hmx
        subst h
        simp only [Option.getD_some] at *
        refine ⟨.slice (some ⟨l.blk, l.off + (if m.toNat = (lo'.getD 0).toNat then a.off else a.off + (lo'.getD 0).toNat * sz), none⟩) ((hi'.getD n).toNat - (lo'.getD 0).toNat) (m.toNat - (lo'.getD 0).toNat), ?_, fun o w ho => hrun o w ho _ ?_⟩
        · exact .one (.cell (.base (.sliceX (a := ⟨a.block, _, some 0⟩) hl rfl (by simp at c2' c1; omega))))
        · rw [ex, hrun2 _ _ w hcc]
          split <;> simp [addr_add, Nat.add_assoc]
    · simp at c1 c1' c2 c2' c3 c3'
      have z0 : (lo'.getD 0).toNat = 0 := by omega
      have z1 : (hi'.getD (0 : Nat)).toNat = 0 := by simp; omega
      have z2 : (mx'.getD (0 : Nat)).toNat = 0 := by simp; omega
      refine ⟨.slice (some a') 0 0, ?_, fun o w ho => hrun o w ho _ ?_⟩
      · split at h
        · simp only [z0, z1, z2] at h
          simp at h; subst h
          exact .one (.cell (.base (.sliceEnd hl)))
        · simp only [z0, z1, z2] at h
          simp at h
          obtain ⟨-, rfl⟩ := h
          exact .one (.cell (.base (.sliceEnd hl)))
      · rw [ex, hrun2 _ _ w (Nat.le_refl _)]
        simp only [z0, z1, z2]
        simp
    · split at h
      · rename_i hsp2; rw [hsp] at hsp2; simp at hsp2
      · simp at h; obtain ⟨-, rfl⟩ := h
        refine ⟨.slice (some ⟨l.blk, l.off + (if (mx'.getD cap).toNat = (lo'.getD 0).toNat then a.off else a.off + (lo'.getD 0).toNat * sz), none⟩) ((hi'.getD n).toNat - (lo'.getD 0).toNat) ((mx'.getD cap).toNat - (lo'.getD 0).toNat), ?_, fun o w ho => hrun o w ho _ ?_⟩
        · exact .one (.cell (.base (.sliceX (a := ⟨a.block, _, some 0⟩) hl rfl (by omega))))
        · rw [ex, hrun2 _ _ w (Nat.le_refl _)]
          split <;> simp [addr_add, Nat.add_assoc]
  · rename_i hxx
    rw [hxx] at hx
    obtain ⟨-, -, ex⟩ := hx.inv_nilslice
    split at h
    rotate_left
    · simp at h
    rename_i e hel
    have hu := run_elemA hel
    split at h
    rotate_left
    · simp at h
    rename_i sz hsz
    split at h
    rotate_left
    · simp at h
    rename_i hc
    simp at h; subst h
    obtain ⟨a1, a2, a3, c4⟩ := hc
    have hb : ∀ w, (Instr.sliceBounds true 0 0 (lo.map ev) (hi.map ev) (mx.map ev)).run P w = .ok ((lo'.getD 0).toNat, (hi'.getD (0 : Nat)).toNat, (mx'.getD (0 : Nat)).toNat) w := by
      intro w
      refine run_bounds h1 h2 h3 ?_ ?_ ?_ ?_ ?_ ?_ ?_ c4 w <;> simp [a1, a2, a3]
    refine ⟨.slice none 0 0, VRel.of_flat rfl, fun o w ho => hrun o w ho _ ?_⟩
    rw [ex]
    simp [Instr.sliceAt, Instr.slice, underlying, hu, hb w, run_sizeA hsz, a1, a2, a3]
  · rename_i a hxx
    rw [hxx] at hx
    obtain ⟨l, hl, ex⟩ := hx.inv_ptr
    split at h
    rotate_left
    · simp at h
    rename_i n e har
    have hu := run_arrayA har
    split at h
    rotate_left
    · simp at h
    rename_i sz hsz
    simp only at h
    split at h
    rotate_left
    · simp at h
    rename_i hc
    simp at h; subst h
    obtain ⟨c1, c1', c2, c2', c3, c3', c4⟩ := hc
    have hb : ∀ w, (Instr.sliceBounds false n n (lo.map ev) (hi.map ev) (mx.map ev)).run P w = .ok ((lo'.getD 0).toNat, (hi'.getD n).toNat, (mx'.getD n).toNat) w := by
      intro w
      exact run_bounds h1 h2 h3 c1 c1' c2 (fun e1 _ => by subst e1; simp at c2'; omega) (fun e1 => by omega) c3 (by omega) c4 w
    refine ⟨.slice (some ⟨l.blk, l.off + (if (mx'.getD n).toNat = (lo'.getD 0).toNat then a.off else a.off + (lo'.getD 0).toNat * sz), none⟩) ((hi'.getD n).toNat - (lo'.getD 0).toNat) ((mx'.getD n).toNat - (lo'.getD 0).toNat), ?_, fun o w ho => hrun o w ho _ ?_⟩
    · exact .one (.cell (.base (.sliceX (a := ⟨a.block, _, some 0⟩) hl rfl (by omega))))
    · rw [ex]
      simp only [Instr.sliceAt, Sem.run_bind, underlying, run_program, Result.andThen_ok, hu, Sem.run_pure, Instr.sureAddr, hb w, run_sizeA hsz]
      split <;> simp [addr_add, Nat.add_assoc]
  · rename_i s hxx
    rw [hxx] at hx
    have ex := hx.inv_string
    split at h
    rotate_left
    · simp at h
    rename_i hu
    simp only at h
    split at h
    rotate_left
    · simp at h
    rename_i hc
    simp at h; subst h
    obtain ⟨rfl, c2, c2', c3, c3'⟩ := hc
    have hmx : mx.map ev = none := by
      cases mx with
      | none => rfl
      | some m => unfold intOf? at h3; split at h3 <;> simp_all
    have hb : ∀ w, (Instr.sliceBounds false s.size s.size (lo.map ev) (hi.map ev) none).run P w = .ok ((lo'.getD 0).toNat, (hi'.getD s.size).toNat, s.size) w := by
      intro w
      have := run_bounds (P := P) (isSlice := false) (len := s.size) (cap := s.size) h1 h2 (mx := none) (mx' := none) rfl (by simp) (by simp) c2 (fun _ _ => c2') (fun e => absurd rfl e) c3 (by omega) (.inl rfl) w
      simpa using this
    refine ⟨_, VRel.of_flat rfl, fun o w ho => hrun o w ho _ ?_⟩
    rw [ex, hmx]
    simp [Instr.sliceAt, Instr.slice, underlying, hu, hb w]
  · simp at h
end
end Go.Ab
namespace Go.Ab
section
variable {P : Program}

theorem cells_rel {ρ : Ren} {H : Heap} {w : World} (hr : Rel P ρ H w) {a : Addr} {l : Loc} (hl : ρ a.block = some l) {n : Nat} {cs : List Value} (h : cellsA H a n = some cs) :
    cs.length = n ∧ ∃ cs', All2 (CRel ρ) cs cs' ∧ ∀ j v, cs'[j]? = some v → w.cell? ((⟨l.blk, l.off + a.off, none⟩ : Addr).add j) = some v := by
  unfold cellsA at h
  split at h
  · rename_i B hB
    split at h
    · rename_i hlen
      simp at h; subst h
      obtain ⟨h1, _, ccs, e, fr, hw, hlim, _, hc⟩ := hr.row a.block B l hB hl
      have hn : ((B.cells.drop a.off).take n).length = n := by simp; omega
      refine ⟨hn, ((ccs.toList.drop (l.off + a.off)).take n), All2.mk ?_ ?_, ?_⟩
      · simp; omega
      · intro i v v' hv hv'
        rw [List.getElem?_take] at hv hv'
        split at hv
        · rename_i hi
          rw [if_pos hi] at hv'
          rw [List.getElem?_drop] at hv hv'
          obtain ⟨u, hu, hrel⟩ := hc _ v hv
          have : ccs.toList[l.off + a.off + i]? = some u := by rw [Nat.add_assoc]; simpa using hu
          rw [this] at hv'
          cases hv'; exact hrel
        · simp at hv
      · intro j v hv
        rw [List.getElem?_take] at hv
        split at hv
        · rw [List.getElem?_drop] at hv
          rw [addr_add]
          have : ccs[l.off + a.off + j]? = some v := by simpa using hv
          simp [World.cell?, hw, this]
        · simp at hv
    · simp at h
  · simp at h
theorem cell_rel {ρ : Ren} {H : Heap} {w : World} (hr : Rel P ρ H w) {a : Addr} {l : Loc} (hl : ρ a.block = some l) {v : Value} (h : cellA H a = some v) :
    ∃ v', CRel ρ v v' ∧ w.cell? ⟨l.blk, l.off + a.off, none⟩ = some v' := by
  unfold cellA at h
  split at h
  · rename_i B hB
    obtain ⟨h1, _, ccs, e, fr, hw, hlim, _, hc⟩ := hr.row a.block B l hB hl
    obtain ⟨v', hv', hrel⟩ := hc _ v h
    exact ⟨v', hrel, by simp [World.cell?, hw, hv']⟩
  · simp at h
theorem load_rel {ρ : Ren} {H : Heap} {w : World} (hr : Rel P ρ H w) {a : Addr} {l : Loc} (hl : ρ a.block = some l) {t : TypeId} {v : Value} (h : loadA P H t a = some v) :
    ∃ v', VRel ρ v v' ∧ (loadVar t ⟨l.blk, l.off + a.off, none⟩).run P w = .ok v' w := by
  unfold loadA at h
  split at h
  · rename_i hg
    split at h
    · rename_i n hn
      cases hc : cellsA H a n with
      | none => simp [hc] at h
      | some cs =>
        simp [hc] at h; subst h
        obtain ⟨hlen, cs', hrel, hcell⟩ := cells_rel hr hl hc
        refine ⟨.agg cs'.toArray, .one (.agg (by simpa using hrel)), ?_⟩
        have := run_loadCells_list (P := P) w ⟨l.blk, l.off + a.off, none⟩ cs' hcell
        rw [← hrel.length, hlen] at this
        simp [loadVar, run_isAggA hg, run_sizeA hn, this]
    · simp at h
  · rename_i hg
    obtain ⟨v', hrel, hc⟩ := cell_rel hr hl h
    exact ⟨v', .one (.cell hrel), by simp [loadVar, run_isAggA hg, hc]⟩
  · simp at h

def Ren.put (ρ : Ren) (b : Nat) (l : Loc) : Ren := fun c => if c = b then some l else ρ c
theorem Ren.put_le {ρ : Ren} {b : Nat} {l : Loc} (h : ρ b = none) : ρ.le (ρ.put b l) := by
  intro c m hc
  unfold Ren.put
  split
  · rename_i e; subst e; rw [h] at hc; cases hc
  · exact hc
theorem Ren.put_same (ρ : Ren) (b : Nat) (l : Loc) : ρ.put b l b = some l := by simp [Ren.put]

theorem Ren.put_eq {ρ : Ren} {b c : Nat} {l : Loc} (h : c = b) : ρ.put b l c = some l := by subst h; exact Ren.put_same _ _ _

theorem Rel.none {ρ : Ren} {H : Heap} {w : World} (hr : Rel P ρ H w) : ρ H.size = none := by
  cases h : ρ H.size with
  | none => rfl
  | some l => exact absurd (hr.dom _ _ h).1 (Nat.lt_irrefl _)

theorem Rel.drew {ρ : Ren} {H : Heap} {w : World} (hr : Rel P ρ H w) : Rel P ρ H w.drew := ⟨hr.row, hr.inj, hr.dom, hr.glob⟩
theorem Ext.drew (ρ : Ren) (H : Heap) (w : World) : Ext ρ H w ρ H w.drew :=
  ⟨fun _ _ h => h, fun _ _ h => .inl h, Nat.le_refl _, rfl, rfl, rfl, Nat.le_refl _, fun _ _ _ => rfl, fun _ h _ => h, fun b l h h0 => by rw [h0] at h; (cases h), fun _ B _ h => ⟨B, h, rfl⟩, fun b h1 h2 => absurd h2 (Nat.not_lt.2 h1)⟩

theorem alloc_rel {ρ : Ren} {H : Heap} {w : World} (hr : Rel P ρ H w) {e : TypeId} {sz : Nat} (hs : sizeA P e = some sz) {cs : List Value} {cs' : Array Value} (hc : All2 (CRel ρ) cs (cs'.toList.take cs.length)) :
    Rel P (ρ.put H.size ⟨w.heap.size, 0, sz, cs'.size⟩) (H.push (some ⟨cs, e, false⟩)) (w.alloc (.cells cs' e)) ∧
    Ext ρ H w (ρ.put H.size ⟨w.heap.size, 0, sz, cs'.size⟩) (H.push (some ⟨cs, e, false⟩)) (w.alloc (.cells cs' e)) := by
  have hle := Ren.put_le (l := ⟨w.heap.size, 0, sz, cs'.size⟩) hr.none
  have hlen : cs.length ≤ cs'.size := by have := hc.length; simp at this; omega
  refine ⟨⟨?_, ?_, ?_, hr.glob.mono hle⟩, ⟨hle, ?_, by simp, rfl, rfl, rfl, by simp, ?_, ?_, ?_, ?_, fun b h1 h2 => ⟨_, Ren.put_eq (by simp at h2; omega)⟩⟩⟩
  · intro b B l hB hl
    by_cases e0 : b = H.size
    · subst e0
      simp at hB; subst hB
      rw [Ren.put_same] at hl; cases hl
      refine ⟨by simp; exact hlen, hs, cs', e, (0, 0), heap_alloc_new w _, Nat.le_refl _, fun _ => rfl, ?_⟩
      intro i v hv
      obtain ⟨v', hv', hrel⟩ := hc.get i v hv
      rw [List.getElem?_take] at hv'
      split at hv'
      · exact ⟨v', by simpa using hv', hrel.mono hle⟩
      · simp at hv'
    · have hl' : ρ b = some l := by simpa [Ren.put, e0] using hl
      have hB' : H[b]? = some (some B) := by
        rw [Array.getElem?_push, if_neg e0] at hB; exact hB
      obtain ⟨h1, h2, ccs, e', fr, hw, h3, h4, h5⟩ := hr.row b B l hB' hl'
      refine ⟨h1, h2, ccs, e', fr, ?_, h3, h4, fun i v hv => ?_⟩
      · rw [heap_alloc_old w _ _ (hr.dom _ _ hl').2]; exact hw
      · obtain ⟨v', hv', hrel⟩ := h5 i v hv
        exact ⟨v', hv', hrel.mono hle⟩
  · intro b c B C l m hB hC hl hm hlm
    by_cases eb : b = H.size
    · by_cases ec : c = H.size
      · exact .inl (eb.trans ec.symm)
      · subst eb
        rw [Ren.put_same] at hl; cases hl
        have hm' : ρ c = some m := by simpa [Ren.put, ec] using hm
        have := (hr.dom _ _ hm').2
        simp at hlm; omega
    · have hl' : ρ b = some l := by simpa [Ren.put, eb] using hl
      have hB' : H[b]? = some (some B) := by rw [Array.getElem?_push, if_neg eb] at hB; exact hB
      by_cases ec : c = H.size
      · subst ec
        rw [Ren.put_same] at hm; cases hm
        have := (hr.dom _ _ hl').2
        simp at hlm; omega
      · have hm' : ρ c = some m := by simpa [Ren.put, ec] using hm
        have hC' : H[c]? = some (some C) := by rw [Array.getElem?_push, if_neg ec] at hC; exact hC
        exact hr.inj b c B C l m hB' hC' hl' hm' hlm
  · intro b l hl
    by_cases eb : b = H.size
    · subst eb
      rw [Ren.put_same] at hl; cases hl
      simp
    · have hl' : ρ b = some l := by simpa [Ren.put, eb] using hl
      have := hr.dom _ _ hl'
      simp; omega
  · intro b l hl
    by_cases eb : b = H.size
    · exact .inr (by omega)
    · exact .inl (by simpa [Ren.put, eb] using hl)
  · intro k hk _
    exact heap_alloc_old w _ _ hk
  · rintro k ⟨b, B, l, hB, hro, hl, rfl⟩ hk
    by_cases eb : b = H.size
    · subst eb
      rw [Ren.put_same] at hl; cases hl
      simp at hk
    · have hl' : ρ b = some l := by simpa [Ren.put, eb] using hl
      have hB' : H[b]? = some (some B) := by rw [Array.getElem?_push, if_neg eb] at hB; exact hB
      exact ⟨b, B, l, hB', hro, hl', rfl⟩
  · intro b l hl h0
    by_cases eb : b = H.size
    · subst eb
      rw [Ren.put_same] at hl; cases hl
      exact .inl (Nat.le_refl _)
    · have hl' : ρ b = some l := by simpa [Ren.put, eb] using hl
      rw [h0] at hl'; cases hl'
  · intro b B hb hB
    rw [Array.getElem?_push, if_neg (Nat.ne_of_lt hb)] at hB
    exact ⟨B, hB, rfl⟩

theorem splice_length {cs vs : List Value} {off : Nat} (h : off + vs.length ≤ cs.length) : (splice cs off vs).length = cs.length := by
  simp [splice]; omega
theorem splice_get {cs vs : List Value} {off : Nat} (h : off + vs.length ≤ cs.length) (i : Nat) :
    (splice cs off vs)[i]? = if off ≤ i ∧ i < off + vs.length then vs[i - off]? else cs[i]? := by
  unfold splice
  have h1 : (cs.take off).length = off := by simp; omega
  rw [List.append_assoc, List.getElem?_append, h1]
  by_cases hi : i < off
  · simp only [hi, if_true]
    rw [if_neg (by omega), List.getElem?_take, if_pos hi]
  · simp only [hi, if_false]
    rw [List.getElem?_append]
    by_cases h2 : i - off < vs.length
    · rw [if_pos h2, if_pos (by omega)]
    · rw [if_neg h2, if_neg (by omega), List.getElem?_drop]
      congr 1; omega

theorem write_rel {ρ : Ren} {H : Heap} {w : World} (hr : Rel P ρ H w) {b : Nat} {B : Blk} {l : Loc} (hB : H[b]? = some (some B)) (hro : B.ro = false) (hl : ρ b = some l) {cur : Array Value} {e : TypeId} {fr : Nat × Nat} (hw : w.heap[l.blk]? = some (.cells cur e fr))
    {off : Nat} {vs vs' : List Value} (hv : All2 (CRel ρ) vs vs') (hlen : off + vs.length ≤ B.cells.length) :
    Rel P ρ (H.setIfInBounds b (some { B with cells := splice B.cells off vs })) (w.setRow l.blk (cur.toList.take (l.off + off) ++ vs' ++ cur.toList.drop (l.off + off + vs'.length)).toArray) ∧
    Ext ρ H w ρ (H.setIfInBounds b (some { B with cells := splice B.cells off vs })) (w.setRow l.blk (cur.toList.take (l.off + off) ++ vs' ++ cur.toList.drop (l.off + off + vs'.length)).toArray) := by
  have hb : b < H.size := (hr.dom _ _ hl).1
  obtain ⟨h1, h2, ccs, e', fr', hw', h3, h4, h5⟩ := hr.row b B l hB hl
  rw [hw] at hw'; cases hw'
  have hvl := hv.length
  have hcl : l.off + off + vs'.length ≤ cur.toList.length := by simp; omega
  have hget : ∀ C c m, (H.setIfInBounds b (some { B with cells := splice B.cells off vs }))[c]? = some (some C) → ρ c = some m → c ≠ b → H[c]? = some (some C) := by
    intro C c m hC hm hne
    rwa [Array.getElem?_setIfInBounds_ne (Ne.symm hne)] at hC
  refine ⟨⟨?_, ?_, ?_, hr.glob⟩, ⟨fun _ _ h => h, fun _ _ h => .inl h, by simp, rfl, rfl, rfl, by simp, ?_, ?_, fun c m h h0 => by rw [h0] at h; (cases h), ?_, fun c h1 h2 => by simp at h2; omega⟩⟩
  · intro c C m hC hm
    by_cases ec : c = b
    · subst ec
      rw [hl] at hm; cases hm
      simp [hb] at hC
      subst hC
      refine ⟨by simp only [splice_length hlen]; exact h1, h2, _, e, fr, setRow_heap w _ _ _ _ _ hw, ?_, h4, ?_⟩
      · simp
        omega
      · intro i v hi
        rw [splice_get hlen] at hi
        show ∃ v', (cur.toList.take (l.off + off) ++ vs' ++ cur.toList.drop (l.off + off + vs'.length)).toArray[l.off + i]? = some v' ∧ CRel ρ v v'
        rw [List.getElem?_toArray]
        have hs := splice_get (cs := cur.toList) (vs := vs') (off := l.off + off) hcl (l.off + i)
        unfold splice at hs
        rw [hs]
        split at hi
        · rename_i hh
          obtain ⟨v', hv', hrel⟩ := hv.get _ v hi
          refine ⟨v', ?_, hrel⟩
          rw [if_pos (by omega), ← hv']
          congr 1; omega
        · rename_i hh
          rw [if_neg (by omega)]
          obtain ⟨v', hv', hrel⟩ := h5 i v hi
          exact ⟨v', by simpa using hv', hrel⟩
    · have hC' := hget C c m hC hm ec
      obtain ⟨g1, g2, ccs2, e2, fr2, hw2, g3, g4, g5⟩ := hr.row c C m hC' hm
      have hne : m.blk ≠ l.blk := by
        intro he
        rcases hr.inj c b C B m l hC' hB hm hl he with h | h
        · exact ec h
        · rw [hro] at h; exact absurd h.2 (by simp)
      exact ⟨g1, g2, ccs2, e2, fr2, by rw [setRow_other _ _ _ _ hne]; exact hw2, g3, g4, g5⟩
  · intro c d C D m n hC hD hm hn hmn
    by_cases ec : c = b
    · by_cases ed : d = b
      · exact .inl (ec.trans ed.symm)
      · have hD' := hget D d n hD hn ed
        subst ec
        rcases hr.inj c d B D m n hB hD' hm hn hmn with h | h
        · exact .inl h
        · rw [hro] at h; exact absurd h.1 (by simp)
    · have hC' := hget C c m hC hm ec
      by_cases ed : d = b
      · subst ed
        rcases hr.inj c d C B m n hC' hB hm hn hmn with h | h
        · exact .inl h
        · rw [hro] at h; exact absurd h.2 (by simp)
      · exact hr.inj c d C D m n hC' (hget D d n hD hn ed) hm hn hmn
  · intro c m hm
    have := hr.dom _ _ hm
    simpa using this
  · intro k hk hn
    refine setRow_other _ _ _ _ ?_
    intro he; subst he
    exact hn ⟨b, B, l, hB, hro, hl, rfl⟩
  · rintro k ⟨c, C, m, hC, hCro, hm, rfl⟩ hk
    by_cases ec : c = b
    · subst ec; rw [hl] at hm; cases hm
      exact ⟨c, B, l, hB, hro, hl, rfl⟩
    · exact ⟨c, C, m, hget C c m hC hm ec, hCro, hm, rfl⟩
  · intro c C hc hC
    by_cases ec : c = b
    · subst ec
      simp [hb] at hC
      subst hC
      exact ⟨B, hB, rfl⟩
    · rw [Array.getElem?_setIfInBounds_ne (Ne.symm ec)] at hC
      exact ⟨C, hC, rfl⟩

theorem store_rel {ρ : Ren} {H H' : Heap} {w : World} (hr : Rel P ρ H w) {t : TypeId} {a : Addr} {v v' : Value} (h : storeA P H t a v = some H') {l : Loc} (hl : ρ a.block = some l) (hv : VRel ρ v v') :
    ∃ w', (Instr.storeAt t (.pointer (some ⟨l.blk, l.off + a.off, none⟩)) v').run P w = .ok () w' ∧ Rel P ρ H' w' ∧ Ext ρ H w ρ H' w' := by
  unfold storeA at h
  split at h
  rotate_left
  · simp at h
  rename_i n B hn hB
  split at h
  rotate_left
  · simp at h
  rename_i hc
  obtain ⟨hro, hsz, hle, hnt⟩ := hc
  simp at h; subst h
  have hcv := hv.cells hnt
  obtain ⟨h1, h2, ccs, e', fr', hw', h3, h4, h5⟩ := hr.row a.block B l hB hl
  have hfr := h4 hro
  subst hfr
  have hlen : v.cells.toList.length = n := by simpa using hsz
  have hlen' : v'.cells.toList.length = n := by rw [← hcv.length]; exact hlen
  have hst := run_storeCells_at P l.blk (l.off + a.off) e' v'.cells.toList 0 ccs w hw' (by rw [hlen']; omega) (by
    intro u hu
    obtain ⟨i, hi⟩ := List.getElem?_of_mem hu
    obtain ⟨x, _, hx⟩ := hcv.get' i u hi
    exact hx.oneCell)
  simp only [Nat.add_zero] at hst
  obtain ⟨k1, k2⟩ := write_rel hr hB hro hl hw' hcv (off := a.off) (by rw [hlen]; exact hle)
  refine ⟨_, ?_, k1, k2⟩
  have : v'.cells.size = n := by simpa using hlen'
  simp [Instr.storeAt, Instr.sureAddr, storeVar, run_sizeA hn, this, hst]
end
end Go.Ab
