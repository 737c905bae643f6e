/- The VM's instructions: what the machine's operations become once types are looked up, and what each does to values without memory. -/
import Derived.Test.YtjegabeechopdaaVmA
namespace Go.Vm
open Go

inductive RO where
  | t (n : Nat)
  | c (v : PV)
  | g (n : Nat)
  deriving Inhabited

abbrev Env := Nat → Option PV

def RO.ev (gl : Nat → Option PV) (env : Env) : RO → Option PV
  | .t n => env n
  | .c v => some v
  | .g n => gl n

/-- The cells of a part: none: one cell that is no struct or array; some n: n cells. -/
abbrev Shape := Option Nat

inductive RI where
  | move (x : RO)
  | pick (c a b : RO)
  | alloc (z : PV)
  | box (x : RO)
  | build (z : List PV) (parts : List (Nat × Nat × RO))
  | bslice (own : Bool) (sz n : Nat) (z : PV) (parts : List (Nat × RO))
  | load (es : Shape) (x : RO)
  | store (n : Nat) (x v : RO)
  | bin (op : BinOp) (x y : RO)
  | binb (op : BinOp) (x y : RO)
  | eqs (ne : Bool) (leaves : List (Nat × Nat)) (x y : RO)
  | un (op : UnOp) (x : RO)
  | conv (k : IntKind) (x : RO)
  | fieldAddr (off : Nat) (x : RO)
  | field (off : Nat) (es : Shape) (x : RO)
  | idxAddr (sz : Nat) (x i : RO)
  | idxAddrA (len sz : Nat) (x i : RO)
  | idx (len sz : Nat) (es : Shape) (x i : RO)
  | extract (i : Nat) (x : RO)
  | len (str : Bool) (x : RO)
  | mm (mx : Bool) (x : RO) (l : List RO)
  | append (sz : Nat) (z : PV) (s x : RO)
  | appendF (sz : Nat) (z : PV) (s x : RO)
  | copy (sz : Nat) (d s : RO)
  | mkslice (sz : Nat) (z : PV) (n : RO)
  | mkfunc (f : FuncId) (caps : List RO)
  | call (f : FuncId) (args : List RO)
  | callv (x : RO) (args : List RO)
  deriving Inhabited

/-- Does an instruction change what is in the local heap? -/
def RI.eff : RI → Bool
  | .store .. | .append .. | .copy .. => true
  | _ => false

def PV.one : PV → Bool
  | .agg _ | .tup _ => false
  | _ => true

def subv (es : Shape) (l : List PV) : Option PV :=
  match es with
  | none => l.head?
  | some n => if n ≤ l.length then some (.agg (l.take n)) else none

def splice (l : List PV) (off : Nat) (c : List PV) : List PV := l.take off ++ c ++ l.drop (off + c.length)

def fillP (ev : RO → Option PV) : List (Nat × Nat × RO) → List PV → Option (List PV)
  | [], l => some l
  | (off, n, x) :: r, l => do
    let v ← ev x
    if v.cells.length = n ∧ off + n ≤ l.length then fillP ev r (splice l off v.cells) else none

def fillE (ev : RO → Option PV) (sz : Nat) : List (Nat × RO) → List PV → Option (List PV)
  | [], l => some l
  | (i, x) :: r, l => do
    let v ← ev x
    if v.cells.length = sz ∧ i < l.length then fillE ev sz r (l.set i v) else none

def bitsI (op : BinOp) (k : IntKind) (x y : Int) : Option Int :=
  let a := BitVec.ofInt k.bits x
  let b := BitVec.ofInt k.bits y
  match op with
  | .and => some (k.wrap (a &&& b).toNat)
  | .or => some (k.wrap (a ||| b).toNat)
  | .xor => some (k.wrap (a ^^^ b).toNat)
  | .andNot => some (k.wrap (a &&& ~~~b).toNat)
  | _ => none

def cmpI (op : BinOp) (x y : Int) : Option Bool :=
  match op with
  | .eql => some (x == y)
  | .neq => some (x != y)
  | .lss => some (decide (x < y))
  | .leq => some (decide (x ≤ y))
  | .gtr => some (decide (x > y))
  | .geq => some (decide (x ≥ y))
  | _ => none

def binI (op : BinOp) (k : IntKind) (x y : Int) : Option PV :=
  match op with
  | .add => some (.int k (k.wrap (x + y)))
  | .sub => some (.int k (k.wrap (x - y)))
  | .mul => some (.int k (k.wrap (x * y)))
  | .quo => if y = 0 then none else some (.int k (k.wrap (x.tdiv y)))
  | .rem => if y = 0 then none else some (.int k (x.tmod y))
  | .and | .or | .xor | .andNot => (bitsI op k x y).map (.int k)
  | .shl | .shr => none
  | _ => (cmpI op x y).map .bool

def shiftI (op : BinOp) (k : IntKind) (x y : Int) : Option PV :=
  if y < 0 then none else
  match op with
  | .shl => some (.int k (k.wrap (x * 2 ^ (min y.toNat k.bits))))
  | .shr => some (.int k (x.fdiv (2 ^ (min y.toNat k.bits))))
  | _ => none

def binP (op : BinOp) (x y : PV) : Option PV :=
  match x, y with
  | .int k a, .int k' b =>
    match op with
    | .shl | .shr => shiftI op k a b
    | _ => if k = k' then binI op k a b else none
  | .str a, .str b => match op with
    | .eql => some (.bool (a.toList == b.toList))
    | .neq => some (.bool (!(a.toList == b.toList)))
    | _ => none
  | _, _ => none

def binB (op : BinOp) (x y : PV) : Option PV :=
  match x, y with
  | .bool a, .bool b => match op with
    | .eql => some (.bool (a == b))
    | .neq => some (.bool (!(a == b)))
    | _ => none
  | _, _ => none

def eq1 (tag : Nat) (x y : PV) : Option Bool :=
  match tag, x, y with
  | 0, .bool a, .bool b => some (a == b)
  | 1, .int k a, .int k' b => if k = k' then some (a == b) else none
  | 2, .str a, .str b => some (a == b)
  | _, _, _ => none

def eqL (l r : List PV) : List (Nat × Nat) → Option Bool
  | [] => some true
  | o :: os => do
    let x ← l[o.1]?
    let y ← r[o.1]?
    let b ← eq1 o.2 x y
    if b then eqL l r os else some false

def unP (op : UnOp) (x : PV) : Option PV :=
  match op, x with
  | .neg, .int k n => some (.int k (k.wrap (0 - n)))
  | .not, .bool b => some (.bool (!b))
  | _, _ => none

def PV.lenP : PV → Option Nat
  | .sl l | .lit l => some l.length
  | .ref _ _ _ n | .cref _ _ _ _ n => some n
  | _ => none

def lenOf (str : Bool) (v : PV) : Option Nat :=
  if str then (match v with | .str s => some s.size | _ => none) else v.lenP

def mm2 (mx : Bool) (x y : PV) : Option PV :=
  match x, y with
  | .int k a, .int _ b => some (.int k (if mx then (if b > a then b else a) else (if b < a then b else a)))
  | _, _ => none

def mmL (ev : RO → Option PV) (mx : Bool) : PV → List RO → Option PV
  | x, [] => some x
  | x, y :: r => do
    let y ← ev y
    let z ← mm2 mx x y
    mmL ev mx z r

def Hp.blk (H : Hp) (b g : Nat) : Option Blk := do
  let k ← H.f b
  if k.g = g then some k else none

/-- The elements that a slice shows. -/
def elems (H : Hp) : PV → Option (List PV)
  | .sl l | .lit l => some l
  | .ref b g off len => do
    let k ← H.blk b g
    if off + len ≤ k.xs.length then some ((k.xs.drop off).take len) else none
  | .cref b g i off len => do
    let k ← H.blk b g
    let e ← k.xs[i]?
    if off + len ≤ e.cells.length ∧ ((e.cells.drop off).take len).all PV.one then some ((e.cells.drop off).take len) else none
  | _ => none

def evs (ev : RO → Option PV) : List RO → Option (List PV)
  | [] => some []
  | x :: r => do
    let v ← ev x
    let l ← evs ev r
    some (v :: l)

/-- A cell that leads into no local heap. -/
def pureF : PV → Bool
  | .int .. | .bool _ | .str _ | .nilp | .nilf | .nili | .nilm | .sl _ => true
  | _ => false

/-- What an instruction that changes nothing gives, and the blocks that it makes. -/
def stepN (ev : RO → Option PV) (H : Hp) : RI → Option (PV × List Blk)
  | .move x => do return (← ev x, [])
  | .pick c a b => do
    match ← ev c with
    | .bool t => do return (← ev (if t then a else b), [])
    | _ => none
  | .alloc z => some (.ptr H.n 0 0 0, [⟨0, z.cells.length, [z]⟩])
  | .box x => do
    let v ← ev x
    match v with
    | .tup _ => none
    | _ => some (.ptr H.n 0 0 0, [⟨0, v.cells.length, [v]⟩])
  | .build z parts => do return (.agg (← fillP ev parts z), [])
  | .bslice own sz n z parts => do
    if z.cells.length = sz ∧ n * sz ≤ 16777216 ∧ n ≤ maxLen then
      let l ← fillE ev sz parts (List.replicate n z)
      if own then some (.ref H.n 0 0 n, [⟨0, sz, l⟩]) else some (.lit l, [])
    else none
  | .load es x => do
    match ← ev x with
    | .ptr b g i off => do
      let k ← H.blk b g
      let e ← k.xs[i]?
      return (← subv es (e.cells.drop off), [])
    | .fptr l => do return (← subv es l, [])
    | _ => none
  | .bin op x y => do return (← binP op (← ev x) (← ev y), [])
  | .binb op x y => do return (← binB op (← ev x) (← ev y), [])
  | .eqs ne ls x y => do
    match ← ev x, ← ev y with
    | .agg l, .agg r => do
      let b ← eqL l r ls
      return (.bool (if ne then !b else b), [])
    | _, _ => none
  | .un op x => do return (← unP op (← ev x), [])
  | .conv k x => do
    match ← ev x with
    | .int _ n => some (.int k (k.wrap n), [])
    | _ => none
  | .fieldAddr off x => do
    match ← ev x with
    | .ptr b g i o => some (.ptr b g i (o + off), [])
    | .fptr l => some (.fptr (l.drop off), [])
    | _ => none
  | .field off es x => do
    match ← ev x with
    | .agg l => do return (← subv es (l.drop off), [])
    | _ => none
  | .idxAddr sz x i => do
    match ← ev x, ← ev i with
    | .sl l, .int _ n | .lit l, .int _ n => do
      if 0 ≤ n then
        let e ← l[n.toNat]?
        if e.cells.length = sz then some (.fptr e.cells, []) else none
      else none
    | .ref b g off len, .int _ n => do
      let k ← H.blk b g
      if 0 ≤ n ∧ n < len ∧ k.sz = sz then some (.ptr b g (off + n.toNat) 0, []) else none
    | .cref b g j off len, .int _ n => do
      let _ ← H.blk b g
      if 0 ≤ n ∧ n < len ∧ sz = 1 then some (.ptr b g j (off + n.toNat), []) else none
    | _, _ => none
  | .idxAddrA len sz x i => do
    match ← ev x, ← ev i with
    | .ptr b g j o, .int _ n => if 0 ≤ n ∧ n < len then some (.ptr b g j (o + n.toNat * sz), []) else none
    | .fptr l, .int _ n => if 0 ≤ n ∧ n < len then some (.fptr (l.drop (n.toNat * sz)), []) else none
    | _, _ => none
  | .idx len sz es x i => do
    match ← ev x, ← ev i with
    | .agg l, .int _ n => if 0 ≤ n ∧ n < len then do return (← subv es (l.drop (n.toNat * sz)), []) else none
    | _, _ => none
  | .extract i x => do
    match ← ev x with
    | .tup l => do return (← l[i]?, [])
    | _ => none
  | .len str x => do return (.int .i64 (← lenOf str (← ev x)), [])
  | .mm mx x l => do return (← mmL ev mx (← ev x) l, [])
  | .mkslice sz z n => do
    match ← ev n with
    | .int .i64 k => if 0 ≤ k ∧ k ≤ 1048576 ∧ z.cells.length = sz then some (.ref H.n 0 0 k.toNat, [⟨0, sz, List.replicate k.toNat z⟩]) else none
    | _ => none
  | .mkfunc f caps => do return (.fn f (← evs ev caps), [])
  | .appendF sz _ s x => do
    match ← ev s with
    | .lit l => do
      let ys ← elems H (← ev x)
      if (l ++ ys).all (fun y => y.cells.length == sz && y.cells.all pureF) && decide ((l ++ ys).length ≤ 1048576) then some (.sl (l ++ ys), []) else none
    | _ => none
  | _ => none

def Hp.set (H : Hp) (b : Nat) (k : Blk) : Hp := ⟨H.n, fun c => (H.f c).map fun o => if c = b then k else o, fun c hc => by simp [H.wf c hc]⟩
def Hp.add (H : Hp) (l : List Blk) : Hp := ⟨H.n + l.length, fun c => if c < H.n then H.f c else l[c - H.n]?, fun c hc => by
  rw [if_neg (by omega)]
  exact List.getElem?_eq_none (by omega)⟩
def Hp.none : Hp := ⟨0, fun _ => .none, fun _ _ => rfl⟩

def putAt (xs : List PV) (i off : Nat) (v : PV) : Option (List PV) := do
  let e ← xs[i]?
  if off = 0 ∧ v.cells.length = e.cells.length then some (xs.set i v)
  else if off + v.cells.length ≤ e.cells.length then some (xs.set i (.agg (splice e.cells off v.cells))) else none

/-- What an instruction that changes the local heap gives. -/
def stepE (ev : RO → Option PV) (H : Hp) : RI → Option (Option PV × Hp)
  | .store n x v => do
    let v ← ev v
    match ← ev x with
    | .ptr b g i off => do
      let k ← H.blk b g
      if v.cells.length = n ∧ v.cells.all PV.one then
        return (none, H.set b ⟨k.g, k.sz, ← putAt k.xs i off v⟩)
      else none
    | _ => none
  | .append sz _ s x => do
    let s ← ev s
    let ys ← elems H (← ev x)
    if ys.all (fun y => y.cells.length == sz && y.cells.all PV.one) && decide ((s.lenP.getD 0) + ys.length ≤ 1048576) then
      match s with
      | .lit l => if l.all (fun y => y.cells.length == sz && y.cells.all PV.one) && !ys.isEmpty then
          some (some (.ref H.n 0 0 (l.length + ys.length)), H.add [⟨0, sz, l ++ ys⟩]) else none
      | .ref b g 0 len => do
        let k ← H.blk b g
        if len = k.xs.length ∧ k.sz = sz then some (some (.ref b (g + 1) 0 (len + ys.length)), H.set b ⟨g + 1, sz, k.xs ++ ys⟩) else none
      | _ => none
    else none
  | .copy sz d s => do
    match ← ev d with
    | .ref b g off len => do
      let k ← H.blk b g
      let ys ← elems H (← ev s)
      let n := min ys.length len
      if off + len ≤ k.xs.length ∧ k.sz = sz ∧ (ys.take n).all (fun y => y.cells.length == sz && y.cells.all PV.one) then
        some (some (.int .i64 n), H.set b ⟨g, sz, splice k.xs off (ys.take n)⟩) else none
    | _ => none
  | _ => none
end Go.Vm
