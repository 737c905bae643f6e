/- The machine's operations as instructions of the VM, types looked up; sound for each that changes nothing in the local heap. -/
import Derived.Test.YtjegabeechopdaaVmD
import Derived.Laws.MakeOwn
import Derived.Laws.Tables
namespace Go.Vm
open Go Go.RowKit

def placesOf (P : Program) (t : TypeId) : Option (List (Nat × Nat)) :=
  match P.underlying t with
  | some (.struct fields) => fields.toList.mapM (fun f => (P.info? f.type).map fun i => (f.offset, i.size))
  | _ => none

def partsOf (place : Nat → Option (Nat × Nat)) : List (Nat × Operand) → Option (List (Nat × Nat × RO))
  | [] => some []
  | (i, x) :: r => do
    let (off, n) ← place i
    let a ← roOf x
    let l ← partsOf place r
    some ((off, n, a) :: l)

def elemsOf : List (Nat × Operand) → Option (List (Nat × RO))
  | [] => some []
  | (i, x) :: r => do
    let a ← roOf x
    let l ← elemsOf r
    some ((i, a) :: l)

/-- The leaves of a type that is compared cell by cell: their places. -/
def leavesOf (P : Program) : Nat → TypeId → Option (List (Nat × Nat))
  | 0, _ => none
  | d + 1, t =>
    match P.underlying t with
    | some .bool => some [(0, 0)]
    | some (.int _) => some [(0, 1)]
    | some .string => some [(0, 2)]
    | some (.struct fs) => if P.stoodInHeld t then none else do
      let s ← szOf P t
      let l ← fs.toList.mapM fun f => if f.name = "_" then none else (leavesOf P d f.type).map fun q => q.map fun x => (f.offset + x.1, x.2)
      if l.flatten.all (fun q => decide (q.1 < s)) then some l.flatten else none
    | some (.array n e) => do
      let q ← leavesOf P d e
      let z ← szOf P e
      let s ← szOf P t
      let l := (List.range n).map fun i => q.map fun x => (i * z + x.1, x.2)
      if l.flatten.all (fun q => decide (q.1 < s)) then some l.flatten else none
    | _ => none

def scalarT (P : Program) (t : TypeId) : Bool :=
  match P.underlying t with
  | some (.int _) | some .string => true
  | _ => false

def boolT (P : Program) (t : TypeId) : Bool :=
  match P.underlying t with
  | some .bool => true
  | _ => false

def callOk (P : Program) (f : FuncId) : Bool :=
  match P.funcs[f]? with
  | some fn => fn.body.isSome && fn.name != "runtime.NumGoroutine"
  | none => false

def resolveRI (P : Program) (own : Bool) (o : Oper) : Option RI :=
  match o.op with
  | .move x | .assign x => (roOf x).map .move
  | .pick c a b => do some (.pick (← roOf c) (← roOf a) (← roOf b))
  | .alloc t => (zeroOf P t).map .alloc
  | .box _ x => (roOf x).map .box
  | .build t parts =>
    match placesOf P t with
    | some pl => do some (.build (← zeroOf P t).cells (← partsOf (pl.toArray[·]?) parts.toList))
    | none =>
      match P.underlying t with
      | some (.array _ e) => do
        let s ← szOf P e
        some (.build (← zeroOf P t).cells (← partsOf (fun i => some (i * s, s)) parts.toList))
      | _ => none
  | .buildSlice t n parts =>
    match P.underlying t with
    | some (.slice e) => do
      let s ← szOf P e
      if s = 0 then none else
      some (.bslice own s n (← zeroOf P e) (← elemsOf parts.toList))
    | _ => none
  | .load t x => do some (.load (← shp P t) (← roOf x))
  | .store t x v => do some (.store (← szOf P t) (← roOf x) (← roOf v))
  | .binOp op xt x y _ =>
    if scalarT P xt then do some (.bin op (← roOf x) (← roOf y)) else
    if boolT P xt then do some (.binb op (← roOf x) (← roOf y)) else
    match op with
    | .eql => do if P.eqGuardType P.depth xt then none else some (.eqs false (← leavesOf P 20 xt) (← roOf x) (← roOf y))
    | .neq => do if P.eqGuardType P.depth xt then none else some (.eqs true (← leavesOf P 20 xt) (← roOf x) (← roOf y))
    | _ => none
  | .unOp op _ x => (roOf x).map (.un op)
  | .convert s d x =>
    match P.underlying s, P.underlying d with
    | some (.int _), some (.int k) => (roOf x).map (.conv k)
    | _, _ => none
  | .fieldAddr s x f =>
    match P.underlying s with
    | some (.struct fs) => do
      let f ← fs[f]?
      if szOf P f.type = some 0 ∨ szOf P f.type = none then none else some (.fieldAddr f.offset (← roOf x))
    | _ => none
  | .field s x f =>
    match P.underlying s with
    | some (.struct fs) => do
      let f ← fs[f]?
      some (.field f.offset (← shp P f.type) (← roOf x))
    | _ => none
  | .indexAddr t x i =>
    match P.underlying t with
    | some (.slice e) => do some (.idxAddr (← szOf P e) (← roOf x) (← roOf i))
    | some (.array n e) => do some (.idxAddrA n (← szOf P e) (← roOf x) (← roOf i))
    | _ => none
  | .index t x i =>
    match P.underlying t with
    | some (.array n e) => do some (.idx n (← szOf P e) (← shp P e) (← roOf x) (← roOf i))
    | _ => none
  | .extract x i => (roOf x).map (.extract i)
  | .makeSlice t l c =>
    match P.underlying t with
    | some (.slice e) =>
      match roOf l, roOf c with
      | some (.t a), some (.t b) => if a = b ∧ (P.info? e).any (fun i => decide (i.bytes ≤ 1048576)) then do some (.mkslice (← szOf P e) (← zeroOf P e) (.t a)) else none
      | some (.c (.int .i64 a)), some (.c (.int .i64 b)) => if a = b ∧ (P.info? e).any (fun i => decide (i.bytes ≤ 1048576)) then do some (.mkslice (← szOf P e) (← zeroOf P e) (.c (.int .i64 a))) else none
      | _, _ => none
    | _ => none
  | .makeFunc fn first cap =>
    match fn with
    | .func f => if first.isEmpty then do some (.mkfunc f (← rosOf cap.toList)) else none
    | _ => none
  | .call c =>
    match c.callee with
    | .value x =>
      match x with
      | .func f => if callOk P f then do some (.call f (← rosOf c.args.toList)) else none
      | .tmp t => do some (.callv (.t t) (← rosOf c.args.toList))
      | _ => none
    | .builtin .len =>
      match c.args.toList, c.argTypes.toList with
      | [x], [t] => match P.underlying t with
        | some .string => (roOf x).map (.len true)
        | some (.slice _) => (roOf x).map (.len false)
        | _ => none
      | _, _ => none
    | .builtin .max => match c.args.toList with
      | x :: r => do some (.mm true (← roOf x) (← rosOf r))
      | _ => none
    | .builtin .min => match c.args.toList with
      | x :: r => do some (.mm false (← roOf x) (← rosOf r))
      | _ => none
    | .builtin .append =>
      match c.args.toList, c.argTypes.toList with
      | [s, x], [t, u] => if t ≠ u then none else match P.underlying t with
        | some (.slice e) => do
          let z ← szOf P e
          let q ← zeroOf P e
          if z = 0 ∨ q.cells.length ≠ z ∨ !(P.info? e).any (fun i => decide (i.bytes ≤ 1048576)) then none else
          let r1 ← roOf s
          let r2 ← roOf x
          some (if own then .append z q r1 r2 else .appendF z q r1 r2)
        | _ => none
      | _, _ => none
    | .builtin .copy =>
      match c.args.toList, c.argTypes.toList with
      | [d, s], [t, _] => match P.underlying t with
        | some (.slice e) => do some (.copy (← szOf P e) (← roOf d) (← roOf s))
        | _ => none
      | _, _ => none
    | _ => none
  | _ => none

/-- The temporaries that an instruction reads. -/
def readsL : List RO → List Nat
  | [] => []
  | x :: r => x.reads ++ readsL r

def RI.reads : RI → List Nat
  | .move x | .box x | .load _ x | .un _ x | .conv _ x | .fieldAddr _ x | .field _ _ x | .extract _ x | .len _ x | .mkslice _ _ x => x.reads
  | .alloc _ => []
  | .pick c a b => c.reads ++ (a.reads ++ b.reads)
  | .build _ ps => readsL (ps.map (·.2.2))
  | .bslice _ _ _ _ ps => readsL (ps.map (·.2))
  | .store _ x y | .bin _ x y | .binb _ x y | .eqs _ _ x y | .idxAddr _ x y | .idxAddrA _ _ x y | .idx _ _ _ x y | .append _ _ x y | .appendF _ _ x y | .copy _ x y => x.reads ++ y.reads
  | .mm _ x l => x.reads ++ readsL l
  | .mkfunc _ l | .call _ l => readsL l
  | .callv x l => x.reads ++ readsL l

/-- An instruction that changes nothing is sound here: G: the heap as the world holds it; H: as the instruction sees it. -/
def NOk (P : Program) (gl : Nat → Option PV) (A : Nat → Prop) (w0 : World) (F : Nat → Prop) (m : Nat → Slot) (w : World) (G : Hp) (n : Nat) (a : Act) (o : Oper) (p : PV) (ext : Nat) : Prop :=
  ∃ v w' F' m', (execOp a.eval o).run P w = .ok (.value v) w' ∧ Sim gl A w0 F' m' w' G ∧ Ev F m w F' m' w' ∧ VRel F' w' m' v p ∧ ∀ b, (∀ k, k < ext → b ≠ n + k) → m' b = m b

theorem NOk.same {P gl A w0 F m w G n a o p ext} {v : Value} (sim : Sim gl A w0 F m w G) (hr : (execOp a.eval o).run P w = .ok (.value v) w) (h : VRel F w m v p) : NOk P gl A w0 F m w G n a o p ext :=
  ⟨v, w, F, m, hr, sim, Ev.refl sim.fnl sim.liv, h, fun _ _ => rfl⟩

section
variable {P : Program} {gl : Nat → Option PV} {A : Nat → Prop} {w0 : World} {F : Nat → Prop} {m : Nat → Slot} {w : World} {G H : Hp} {a : Act} {env : Env} {o : Oper} {p : PV} {own : Bool}

theorem ERel.app {l1 l2 : List Nat} (h : ERel F m w a env (l1 ++ l2)) : ERel F m w a env l1 ∧ ERel F m w a env l2 :=
  ⟨fun t ht => h t (by simp [ht]), fun t ht => h t (by simp [ht])⟩

theorem ok_move (sim : Sim gl A w0 F m w G) {x : Operand} {r : RO} (ho : o.op = .move x ∨ o.op = .assign x) (hx : roOf x = some r) (he : ERel F m w a env r.reads) (hp : r.ev gl env = some p) (n ext : Nat) :
    NOk P gl A w0 F m w G n a o p ext :=
  .same sim (v := a.eval x) (by rcases ho with ho | ho <;> simp [execOp, ho]) (RO.rel sim hx he hp)

theorem ok_pick (sim : Sim gl A w0 F m w G) {c x y : Operand} {rc rx ry : RO} (ho : o.op = .pick c x y) (hc : roOf c = some rc) (hx : roOf x = some rx) (hy : roOf y = some ry)
    (he : ERel F m w a env (rc.reads ++ (rx.reads ++ ry.reads))) {t : Bool} (hcp : rc.ev gl env = some (.bool t)) (hp : (if t then rx else ry).ev gl env = some p) (n ext : Nat) :
    NOk P gl A w0 F m w G n a o p ext := by
  obtain ⟨e1, e2⟩ := he.app
  obtain ⟨e2, e3⟩ := e2.app
  have h1 := RO.rel sim hc e1 hcp
  generalize hv : a.eval c = vc at h1
  cases h1
  cases t with
  | true => exact .same sim (v := a.eval x) (by simp [execOp, ho, hv, asBool]) (RO.rel sim hx e2 hp)
  | false => exact .same sim (v := a.eval y) (by simp [execOp, ho, hv, asBool]) (RO.rel sim hy e3 hp)

theorem toList_getElem? {a : Array Value} {i : Nat} (h : i < a.size) : a[i]? = some a[i] := Array.getElem?_eq_getElem h

/-- A value's cells as a new block of one element. -/
theorem ok_new (sim : Sim gl A w0 F m w G) {v : Value} {q : PV} (hv : VRel F w m v q) (T : TypeId) (hX : G.f H.n = some ⟨0, q.cells.length, [q]⟩) (hU : m H.n = .unborn)
    (hr : (execOp a.eval o).run P w = .ok (.value (.pointer (some ⟨w.heap.size, 0, none⟩))) (w.alloc (.cells v.cells T))) : NOk P gl A w0 F m w G H.n a o (.ptr H.n 0 0 0) 1 := by
  obtain ⟨hs, hc⟩ := hv.size
  obtain ⟨s, e⟩ := sim.alloc v.cells T H.n hU ⟨0, q.cells.length, [q]⟩ hX (by simp [hs]) (by simp) (fun i hi j hj => by
    simp at hi
    subst hi
    simp only [List.getElem_cons_zero] at hj ⊢
    refine ⟨v.cells[j]'(by omega), ?_, hc j (by omega) hj⟩
    simp only [Nat.zero_mul, Nat.zero_add]
    exact toList_getElem? (by omega))
  refine ⟨_, _, F, _, hr, s, e, .ptr _ _ _ _ _ ?_, fun b hb => mput_ne _ _ (by simpa using hb 0 (by omega))⟩
  rw [mput_eq]
  exact ⟨Nat.le_refl _, fun _ => by simp⟩

theorem ok_alloc (sim : Sim gl A w0 F m w G) {t : TypeId} {z : PV} (ho : o.op = .alloc t) (hz : zeroOf P t = some z) (hX : G.f H.n = some ⟨0, z.cells.length, [z]⟩) (hU : m H.n = .unborn) :
    NOk P gl A w0 F m w G H.n a o (.ptr H.n 0 0 0) 1 := by
  obtain ⟨v, hr, hv⟩ := run_zeroValue' hz w
  refine ok_new sim (ofZero_rel hv) t hX hU ?_
  simp only [execOp, ho, Instr.alloc, Sem.run_bind, hr, Result.andThen_ok, newVar, newRow, run_newObj, Sem.run_pure]
  rfl

theorem ok_box (sim : Sim gl A w0 F m w G) {t : TypeId} {x : Operand} {r : RO} {q : PV} (ho : o.op = .box t x) (hx : roOf x = some r) (he : ERel F m w a env r.reads) (hp : r.ev gl env = some q)
    (hX : G.f H.n = some ⟨0, q.cells.length, [q]⟩) (hU : m H.n = .unborn) : NOk P gl A w0 F m w G H.n a o (.ptr H.n 0 0 0) 1 := by
  refine ok_new sim (RO.rel sim hx he hp) t hX hU ?_
  simp only [execOp, ho, Instr.box, Sem.run_bind, Result.andThen_ok, newVar, newRow, run_newObj, Sem.run_pure]
  rfl

theorem Addr.add_add (a : Addr) (i j : Nat) : (a.add i).add j = a.add (i + j) := by
  unfold Addr.add
  by_cases h1 : i = 0 <;> by_cases h2 : j = 0 <;> simp [h1, h2, Nat.add_assoc]

theorem add_plain' (g i j : Nat) : (⟨g, i, none⟩ : Addr).add j = ⟨g, i + j, none⟩ := by unfold Addr.add; split <;> simp_all

theorem cell_row {w : World} {β : Nat} {cs : Array Value} {T : TypeId} {fr : Nat × Nat} (h : w.heap[β]? = some (.cells cs T fr)) (i : Nat) : w.cell? ⟨β, i, none⟩ = cs[i]? := by
  simp [World.cell?, h]

theorem Hp.blk_some {H : Hp} {b g : Nat} {k : Blk} (h : H.blk b g = some k) : H.f b = some k ∧ k.g = g := by
  unfold Hp.blk at h
  simp only [Option.bind_eq_bind, Option.bind_eq_some_iff] at h
  obtain ⟨k', h1, h2⟩ := h
  split at h2
  · rename_i e; injection h2 with h2; subst h2; exact ⟨h1, e⟩
  · cases h2

/-- A pointer into a block that there is: where it leads. -/
theorem ptr_at (sim : Sim gl A w0 F m w G) {v : Value} {b g i off : Nat} {k : Blk} (hv : VRel F w m v (.ptr b g i off)) (hb : G.f b = some k) (hg : k.g = g) :
    ∃ β, m b = .live β k.sz k.g ∧ BlkOk F m w β k ∧ v = .pointer (some ⟨β, i * k.sz + off, none⟩) := by
  cases hv with
  | ptr ad _ _ _ _ h =>
    have hnu : m b ≠ .unborn := fun e => by rw [e] at h; exact h
    rcases sim.blk b k hb hnu with ⟨β, hm, hok⟩ | ⟨hv, _⟩
    case inr => rw [hv] at h; exact h.elim
    rw [hm] at h
    exact ⟨β, hm, hok, by rw [h.2 hg.symm]⟩

theorem ok_load (sim : Sim gl A w0 F m w G) (hG : ∀ b k, H.f b = some k → G.f b = some k) {t : TypeId} {x : Operand} {r : RO} {es : Shape} (ho : o.op = .load t x) (hx : roOf x = some r) (ht : shp P t = some es)
    (he : ERel F m w a env r.reads) (n ext : Nat) (hp : stepN (RO.ev gl env) H (.load es r) = some (p, [])) : NOk P gl A w0 F m w G n a o p ext := by
  simp only [stepN, Option.bind_eq_bind, Option.bind_eq_some_iff] at hp
  obtain ⟨q, hq, hp⟩ := hp
  have hv := RO.rel sim hx he hq
  split at hp
  · rename_i b g i off
    simp only [Option.bind_eq_some_iff, Option.pure_def, Option.some.injEq, Prod.mk.injEq] at hp
    obtain ⟨k, hk, e, hxs, p', hsub, rfl, _⟩ := hp
    obtain ⟨hf, hg⟩ := Hp.blk_some hk
    obtain ⟨β, hm, ⟨cs, T, h1, h2, h3, h4⟩, hev⟩ := ptr_at sim hv (hG _ _ hf) hg
    obtain ⟨hi, rfl⟩ := List.getElem?_eq_some_iff.1 hxs
    obtain ⟨v, hr, hrel⟩ := run_loadVar' (P := P) (F := F) (m := m) (w := w) (l := (k.xs[i]).cells.drop off) (⟨β, i * k.sz + off, none⟩ : Addr) (fun j => cs.getD (i * k.sz + off + j) undef) ht hsub
      (fun j hj => by
        simp at hj
        obtain ⟨v, hv, _⟩ := h4 i hi (off + j) (by omega)
        rw [add_plain', cell_row h1, Nat.add_assoc, hv, Array.getD_eq_getD_getElem?, hv]
        rfl)
      (fun j hj => by
        simp at hj
        obtain ⟨v, hv, hr⟩ := h4 i hi (off + j) (by omega)
        rw [Nat.add_assoc, Array.getD_eq_getD_getElem?, hv]
        simpa using hr)
    exact .same sim (v := v) (by simp only [execOp, ho, hev, Instr.loadAt, Instr.sureAddr, Sem.run_bind, Sem.run_pure, Result.andThen_ok, hr]) hrel
  · rename_i l
    simp only [Option.bind_eq_some_iff, Option.pure_def, Option.some.injEq, Prod.mk.injEq] at hp
    obtain ⟨p', hsub, rfl, _⟩ := hp
    generalize hev : a.eval x = va at hv
    cases hv with
    | fptr ad _ cs hF hcell h =>
      obtain ⟨v, hr, hrel⟩ := run_loadVar' (P := P) (F := F) (m := m) (w := w) ad cs ht hsub hcell h
      exact .same sim (v := v) (by simp only [execOp, ho, hev, Instr.loadAt, Instr.sureAddr, Sem.run_bind, Sem.run_pure, Result.andThen_ok, hr]) hrel
  · cases hp
end
end Go.Vm
