/- The law WitnessMost answers true, whatever its arguments: part 1 of 6 of its proof (the machine on trees, the functions' contracts). -/
import Derived.Calls
import Derived.Orders
import Derived.Below
import Derived.Still
import Derived.Deep.Quiet
import Derived.Laws.AppendOwn
import Derived.Laws.MakeOwn
import Derived.Laws.StructEq
import Derived.Laws.Small
import Derived.Deep.MidRow
import Derived.WalkKit
import Derived.RangeFuncOwn
import Derived.Tactics
import Derived.TacticsIn
import Derived.OrdersIn
import Derived.RangeFuncNested
import Derived.RangeFuncLeaves
import Derived.ProofKit
import Derived.OpenShut
import Derived.ShutString
import Derived.ChangeOld
import Derived.SizedLaws
import Derived.Carry
import Derived.JoinedCond
import Derived.ChangeSlices
import Derived.WideShapes
import Derived.ChangeArms
section
namespace Go.AM
open Go.RowKit
set_option linter.unusedVariables false
set_option linter.unusedSimpArgs false

/-- values: numbers, trees (what isn't written any more, 'ro'; a pointer into it, 'rptr'), pointers and rows in objects by number, functions -/
inductive AV where
  | yl (l : Nat) | und | int (k : IntKind) (n : Int) | bool (b : Bool) | str (s : ByteArray) | nilp | nils | nilf
  | ptr (id i j : Nat) | row (id i n : Nat) | ro (l : List (List AV)) | rptr (l : List AV)
  | fn (f : FuncId) (fs cs : List AV) | agg (l : List AV) | tup (l : List AV) | gd (b : Bool) (v : AV) | pin (c : Value) (v : AV) | app (tok : Nat) (l : List (List AV))
  deriving Inhabited

abbrev Mem := Addr → Option Value
inductive Pl where
  | ob (b cs sz : Nat)   -- an object: its block, its cells, the cells of an element
  | tk (n : Nat) (cv : Value)   -- a slice that is appended to: how it stands now
abbrev Pm := Nat → Option Pl
abbrev Pm0 : Pm := fun _ => none

inductive RelV (F : Mem) : Pm → AV → Value → Prop
  | und {μ : Pm} (v : Value) : RelV F μ .und v
  | int {μ : Pm} (k : IntKind) (n : Int) : RelV F μ (.int k n) (.int k n)
  | bool {μ : Pm} (b : Bool) : RelV F μ (.bool b) (.bool b)
  | str {μ : Pm} (s : ByteArray) : RelV F μ (.str s) (.string s)
  | nilp {μ : Pm} : RelV F μ .nilp (.pointer none)
  | nils {μ : Pm} : RelV F μ .nils (.slice none 0 0)
  | nilf {μ : Pm} : RelV F μ .nilf .nilFunc
  | yl {μ : Pm} (l : Nat) : RelV F μ (.yl l) (.func (.yield l) #[] #[])
  | ptr {μ : Pm} {id i j b cs sz : Nat} (h : μ id = some (.ob b cs sz)) : RelV F μ (.ptr id i j) (.pointer (some ⟨b, i * sz + j, none⟩))
  | row {μ : Pm} {id i n cap b cs sz : Nat} {a : Addr} (h : μ id = some (.ob b cs sz)) (hn : n ≤ cap) (hm : cap ≤ maxLen) (ha : cap ≠ 0 → a = ⟨b, i * sz, none⟩ ∧ (i + cap) * sz = cs) : RelV F μ (.row id i n) (.slice (some a) n cap)
  | ro0 {μ : Pm} : RelV F μ (.ro []) (.slice none 0 0)
  | ro {μ : Pm} {l : List (List AV)} {b o cap sz : Nat} {a : Addr} (cv : Nat → Nat → Value) (hz : ∀ (i : Nat) c, l[i]? = some c → c.length = sz)
      (hc : ∀ (i : Nat) c (j : Nat) v, l[i]? = some c → c[j]? = some v → F ⟨b, o + i * sz + j, none⟩ = some (cv i j) ∧ (cv i j).oneCell' = true)
      (hr : ∀ (i : Nat) c (j : Nat) v, l[i]? = some c → c[j]? = some v → RelV F Pm0 v (cv i j)) (hn : l.length ≤ cap) (hm : l.length ≤ maxLen) (ha : l ≠ [] → a = ⟨b, o, none⟩) : RelV F μ (.ro l) (.slice (some a) l.length cap)
  | rptr {μ : Pm} {l : List AV} {b o : Nat} (cv : Nat → Value) (hc : ∀ (j : Nat) v, l[j]? = some v → F ⟨b, o + j, none⟩ = some (cv j) ∧ (cv j).oneCell' = true)
      (hr : ∀ (j : Nat) v, l[j]? = some v → RelV F Pm0 v (cv j)) : RelV F μ (.rptr l) (.pointer (some ⟨b, o, none⟩))
  | fn {μ : Pm} {f : FuncId} {fs cs : List AV} {A C : Array Value} (hA : A.size = fs.length) (hC : C.size = cs.length) (ha : ∀ (j : Nat) v, fs[j]? = some v → RelV F μ v (A.getD j undef))
      (hc : ∀ (j : Nat) v, cs[j]? = some v → RelV F μ v (C.getD j undef)) : RelV F μ (.fn f fs cs) (.func (.func f) A C)
  | agg {μ : Pm} {l : List AV} {A : Array Value} (hA : A.size = l.length) (h : ∀ (j : Nat) v, l[j]? = some v → RelV F μ v (A.getD j undef)) : RelV F μ (.agg l) (.agg A)
  | tup {μ : Pm} {l : List AV} {A : Array Value} (hA : A.size = l.length) (h : ∀ (j : Nat) v, l[j]? = some v → RelV F μ v (A.getD j undef)) : RelV F μ (.tup l) (.tuple A)
  | gd {μ : Pm} {b : Bool} {v : AV} {cv : Value} (h : b = true → RelV F μ v cv) (h2 : b = false → cv = undef) : RelV F μ (.gd b v) cv
  | pin {μ : Pm} {v : AV} {cv : Value} (h : RelV F μ v cv) : RelV F μ (.pin cv v) cv
  | app {μ : Pm} {tok n : Nat} {l : List (List AV)} {cv cv0 : Value} (h : RelV F Pm0 (.ro l) cv) (ht : μ tok = some (.tk n cv0)) (hl : l.length ≤ n) (he : l.length = n → cv = cv0) : RelV F μ (.app tok l) cv

/-- what a value keeps while objects come, and slices are appended to -/
def Pm.le (μ μ' : Pm) : Prop := (∀ id b cs sz, μ id = some (.ob b cs sz) → μ' id = some (.ob b cs sz)) ∧ ∀ id n cv, μ id = some (.tk n cv) → ∃ n' cv', μ' id = some (.tk n' cv') ∧ n ≤ n' ∧ (n = n' → cv = cv')
theorem Pm.le.refl (μ : Pm) : μ.le μ := ⟨fun _ _ _ _ h => h, fun _ n cv h => ⟨n, cv, h, Nat.le_refl _, fun _ => rfl⟩⟩
theorem Pm.le.trans {a b c : Pm} (h : a.le b) (k : b.le c) : a.le c :=
  ⟨fun id x y z q => k.1 _ _ _ _ (h.1 _ _ _ _ q), fun id n cv q => by
    obtain ⟨n1, cv1, h1, h2, h3⟩ := h.2 _ _ _ q
    obtain ⟨n2, cv2, k1, k2, k3⟩ := k.2 _ _ _ h1
    exact ⟨n2, cv2, k1, Nat.le_trans h2 k2, fun e => by obtain rfl : n = n1 := by omega
                                                        exact (h3 rfl).trans (k3 e)⟩⟩
theorem Pm.le0 (μ : Pm) : Pm.le Pm0 μ := ⟨fun _ _ _ _ h => (by cases h), fun _ _ _ h => (by cases h)⟩
theorem RelV.mono' {F F' : Mem} (hF : ∀ a v, F a = some v → F' a = some v) {μ : Pm} {v : AV} {cv : Value} (h : RelV F μ v cv) : ∀ {μ' : Pm}, μ.le μ' → RelV F' μ' v cv := by
  induction h with
  | und v => intro _ _; exact .und v
  | int k n => intro _ _; exact .int k n
  | bool b => intro _ _; exact .bool b
  | str s => intro _ _; exact .str s
  | nilp => intro _ _; exact .nilp
  | nils => intro _ _; exact .nils
  | nilf => intro _ _; exact .nilf
  | yl l => intro _ _; exact .yl l
  | ptr h => intro _ hμ; exact .ptr (hμ.1 _ _ _ _ h)
  | row h hn hm ha => intro _ hμ; exact .row (hμ.1 _ _ _ _ h) hn hm ha
  | ro0 => intro _ _; exact .ro0
  | ro cv hz hc hr hn hm ha ih => intro _ _; exact .ro cv hz (fun i c j v h1 h2 => ⟨hF _ _ (hc i c j v h1 h2).1, (hc i c j v h1 h2).2⟩) (fun i c j v h1 h2 => ih i c j v h1 h2 (Pm.le.refl _)) hn hm ha
  | rptr cv hc hr ih => intro _ _; exact .rptr cv (fun j v h => ⟨hF _ _ (hc j v h).1, (hc j v h).2⟩) (fun j v h => ih j v h (Pm.le.refl _))
  | fn hA hC ha hc iha ihc => intro _ hμ; exact .fn hA hC (fun j v h => iha j v h hμ) (fun j v h => ihc j v h hμ)
  | agg hA h ih => intro _ hμ; exact .agg hA (fun j v h => ih j v h hμ)
  | tup hA h ih => intro _ hμ; exact .tup hA (fun j v h => ih j v h hμ)
  | gd h h2 ih => intro _ hμ; exact .gd (fun hb => ih hb hμ) h2
  | pin h ih => intro _ hμ; exact .pin (ih hμ)
  | @app μ tok n l cv cv0 h ht hl he ih =>
    intro _ hμ
    obtain ⟨n', cv', h1, h2, h3⟩ := hμ.2 _ _ _ ht
    exact .app (ih (Pm.le.refl _)) h1 (Nat.le_trans hl h2) (fun e => by
      have : l.length = n := by omega
      rw [he this]; exact h3 (by omega))
theorem RelV.mono {μ μ' : Pm} {F F' : Mem} (hμ : μ.le μ') (hF : ∀ a v, F a = some v → F' a = some v) {v : AV} {cv : Value} (h : RelV F μ v cv) : RelV F' μ' v cv := h.mono' hF hμ

/-- one cell -/
def AV.one : AV → Bool
  | .yl _ | .int .. | .bool _ | .str _ | .nilp | .nils | .nilf | .ptr .. | .row .. | .ro _ | .rptr _ | .fn .. | .app .. => true
  | _ => false
theorem RelV.one {μ : Pm} {F : Mem} {v : AV} {cv : Value} (h : RelV F μ v cv) (ho : v.one = true) : cv.oneCell' = true := by
  cases h with
  | app h _ _ _ => cases h <;> rfl
  | _ => first | rfl | (simp [AV.one] at ho; done)
def AV.cells : AV → List AV
  | .agg l => l
  | v => [v]
theorem RelV.cells {μ : Pm} {F : Mem} {v : AV} {cv : Value} (h : RelV F μ v cv) (hv : (∃ l, v = .agg l) ∨ v.one = true) : cv.cells.size = v.cells.length ∧ ∀ (j : Nat) u, v.cells[j]? = some u → RelV F μ u (cv.cells.getD j undef) := by
  rcases hv with ⟨l, rfl⟩ | ho
  · cases h with
    | agg hA h => exact ⟨hA, h⟩
  · have : v.cells = [v] := by cases v <;> first | rfl | simp [AV.one] at ho
    rw [this]
    have hc : cv.cells = #[cv] := by
      have := h.one ho
      cases cv <;> first | rfl | simp [Value.oneCell'] at this
    rw [hc]
    refine ⟨rfl, fun j u hj => ?_⟩
    cases j with
    | zero => simp at hj; subst hj; exact h
    | succ j => simp at hj

/-- environments -/
abbrev Env := List (Nat × AV)
def get : Env → Nat → AV
  | [], _ => .und
  | (s, v) :: r, t => bif Nat.beq s t then v else get r t
def wr (nt : Nat) (e : Env) (d : Option Nat) (v : AV) : Env :=
  match d with
  | some d => bif Nat.blt d nt then (d, v) :: e else e
  | none => e
def ofVal : Value → AV
  | .int k n => .int k n
  | .bool b => .bool b
  | .string s => .str s
  | .pointer none => .nilp
  | .slice none 0 0 => .nils
  | .nilFunc => .nilf
  | _ => .und
def ev (e : Env) : Operand → AV
  | .tmp t => get e t
  | .const v => ofVal v
  | .func f => .fn f [] []
  | .global _ => .und
structure RelE (μ : Pm) (F : Mem) (nt : Nat) (e : Env) (tmps : Array Value) : Prop where
  size : tmps.size = nt
  rel : ∀ t, RelV F μ (get e t) (tmps.getD t undef)
theorem RelE.mono {μ μ' : Pm} {F F' : Mem} (hμ : μ.le μ') (hF : ∀ a v, F a = some v → F' a = some v) {nt : Nat} {e : Env} {A : Array Value} (h : RelE μ F nt e A) : RelE μ' F' nt e A :=
  ⟨h.size, fun t => (h.rel t).mono hμ hF⟩
theorem get_cons (s t : Nat) (v : AV) (r : Env) : get ((s, v) :: r) t = if s = t then v else get r t := by
  simp only [get]
  by_cases h : s = t
  · subst h; simp
  · have : Nat.beq s t = false := by cases hb : Nat.beq s t with | false => rfl | true => exact absurd (Nat.eq_of_beq_eq_true hb) h
    simp [this, h]
theorem RelE.put {μ : Pm} {F : Mem} {nt : Nat} {e : Env} {a : Act} (h : RelE μ F nt e a.tmps) {d : Option Nat} {v : AV} {cv : Value} (hv : RelV F μ v cv) : RelE μ F nt (wr nt e d v) (a.put d cv).tmps := by
  cases d with
  | none => exact h
  | some d =>
    simp only [wr, Act.put]
    refine ⟨by simpa using h.size, fun t => ?_⟩
    by_cases hd : d < nt
    · have : Nat.blt d nt = true := by simpa [Nat.blt_eq] using hd
      rw [this, cond_true, get_cons]
      by_cases hdt : d = t
      · subst hdt
        rw [if_pos rfl]
        have hs : d < a.tmps.size := by rw [h.size]; exact hd
        simpa [hs] using hv
      · rw [if_neg hdt]
        have := h.rel t
        simpa [Array.getElem?_setIfInBounds_ne hdt] using this
    · have hb : Nat.blt d nt = false := by
        cases hb : Nat.blt d nt with
        | false => rfl
        | true => exact absurd (by simpa [Nat.blt_eq] using hb) hd
      rw [hb, cond_false]
      have hs : a.tmps.setIfInBounds d cv = a.tmps := Array.setIfInBounds_eq_of_size_le (by rw [h.size]; omega)
      rw [hs]
      exact h.rel t
theorem RelE.ev {μ : Pm} {F : Mem} {nt : Nat} {e : Env} {a : Act} (h : RelE μ F nt e a.tmps) (x : Operand) : RelV F μ (ev e x) (a.eval x) := by
  cases x with
  | tmp t => exact h.rel t
  | const v =>
    show RelV F μ (ofVal v) v
    unfold ofVal
    split <;> constructor
  | global g => exact .und _
  | func f => exact .fn rfl rfl (fun j v h => by simp at h) (fun j v h => by simp at h)

/-- types, as far as the machine asks -/
inductive TK where
  | other | int (k : IntKind) | bool | str | pointer | func | slice (e : Nat) | array (n e : Nat) | struct (fs : List (Nat × Nat))
  deriving Inhabited, DecidableEq
inductive EK where
  | int | bool | str
  deriving Inhabited, DecidableEq
structure TI where
  kind : TK
  size : Nat
  bytes : Nat
  zero : List AV
  eq : Option (List EK)
  deriving Inhabited
def TI.none : TI := ⟨.other, 0, 0, [], Option.none⟩
def TK.row : TK → Bool
  | .array .. | .struct _ => true
  | _ => false
/-- '==' goes cell by cell: numbers, bools, strings, structs of such, one behind the other -/
def eqGo (f : TypeId → Option (List EK)) (P : Program) : List Field → Nat → Option (List EK)
  | [], _ => some []
  | g :: fs, o => bif g.name != "_" && g.offset == o then (match f g.type with
    | some a => bif P.cellsOf g.type == a.length then (eqGo f P fs (o + a.length)).map (a ++ ·) else none
    | none => none) else none
def eqL (P : Program) : Nat → TypeId → Option (List EK)
  | 0, _ => none
  | d + 1, t => match P.underlying t with
    | some .bool => some [.bool]
    | some (.int _) => some [.int]
    | some .string => some [.str]
    | some (.struct fs) => bif P.stoodInHeld t then none else eqGo (eqL P d) P fs.toList 0
    | _ => none
def kindOf : Option TypeDesc → TK
  | some (.int k) => .int k
  | some .bool => .bool
  | some .string => .str
  | some (.pointer _) => .pointer
  | some (.func _ _ _) => .func
  | some (.slice e) => .slice e
  | some (.array n e) => .array n e
  | some (.struct fs) => .struct (fs.toList.map fun f => (f.offset, f.type))
  | _ => .other
def zeroOf (z : Value) : List AV := z.cells.toList.map ofVal
def tiOf (P : Program) (t : TypeId) : TI :=
  match P.info? t with
  | some i => match i.zero with
    | some z => ⟨kindOf (P.underlying t), i.size, i.bytes, zeroOf z, bif P.eqGuardType P.depth t then Option.none else eqL P 9 t⟩
    | none => .none
  | none => .none
abbrev Tab := List TI
def Tab.at (T : Tab) (t : Nat) : TI := T.getD t .none
def Tab.Ok (P : Program) (T : Tab) : Prop := ∀ t, T.at t = tiOf P t ∨ T.at t = .none
theorem Tab.ok_of {P : Program} {n : Nat} {T : Tab} (h : (List.range n).map (tiOf P) = T) : Tab.Ok P T := by
  intro t
  subst h
  unfold Tab.at
  by_cases ht : t < n
  · left; simp [List.getD_eq_getElem?_getD, ht]
  · right; simp [List.getD_eq_getElem?_getD, ht]

/-- objects: rows of elements of so many cells; the first 'fz' elements are not written any more -/
structure Ob where
  ty : Nat
  sz : Nat
  fz : Nat
  es : List (List AV)
abbrev Objs := List (Nat × Option Ob)
def lk : Objs → Nat → Option Ob
  | [], _ => none
  | (i, o) :: r, id => bif Nat.beq i id then o else lk r id
theorem lk_cons (i id : Nat) (o : Option Ob) (r : Objs) : lk ((i, o) :: r) id = if i = id then o else lk r id := by
  simp only [lk]
  by_cases h : i = id
  · subst h; simp
  · have : Nat.beq i id = false := by cases hb : Nat.beq i id with | false => rfl | true => exact absurd (Nat.eq_of_beq_eq_true hb) h
    simp [this, h]

structure RelO (n0 : Nat) (w0 : World) (μ : Pm) (F : Mem) (O : Objs) (nx : Nat) (w : World) : Prop where
  below : Below n0 w0 w
  base : n0 ≤ w.heap.size
  fresh : ∀ id, nx ≤ id → μ id = none
  obj : ∀ id o, lk O id = some o → ∃ b cs cur, μ id = some (.ob b cs o.sz) ∧ n0 ≤ b ∧ w.heap[b]? = some (.cells cur o.ty (0, 0)) ∧ cur.size = cs ∧ o.es.length * o.sz ≤ cur.size ∧
    (∀ (i : Nat) c, o.es[i]? = some c → c.length = o.sz) ∧ ∀ (i : Nat) c (j : Nat) v, o.es[i]? = some c → c[j]? = some v → RelV F μ v (cur.getD (i * o.sz + j) undef) ∧ (cur.getD (i * o.sz + j) undef).oneCell' = true
  apart : ∀ id id' o o' b cs sz b' cs' sz', id ≠ id' → lk O id = some o → lk O id' = some o' → μ id = some (.ob b cs sz) → μ id' = some (.ob b' cs' sz') → b ≠ b'
  mem : ∀ a v, F a = some v → w.cell? a = some v
  froz : ∀ id o b cs sz, lk O id = some o → μ id = some (.ob b cs sz) → ∀ a v, F a = some v → a.block = b → a.off < o.fz * o.sz
/-- slices that are appended to: the numbers of those that live, the type and the size of their elements, how many there are -/
abbrev Toks := List (Nat × Option (Nat × Nat × Nat))
def lt : Toks → Nat → Option (Nat × Nat × Nat)
  | [], _ => none
  | (i, o) :: r, id => bif Nat.beq i id then o else lt r id
structure RelT (n0 : Nat) (μ : Pm) (F : Mem) (O : Objs) (K : Toks) (w : World) : Prop where
  tok : ∀ id ty sz n, lt K id = some (ty, sz, n) → ∃ cv, μ id = some (.tk n cv) ∧ 0 < sz ∧ ((n = 0 ∧ ∃ a, cv = .slice a 0 0) ∨ ∃ b cap cur, cv = .slice (some ⟨b, 0, none⟩) n cap ∧ n ≤ cap ∧ 0 < cap ∧ cap ≤ maxLen ∧ n0 ≤ b ∧ w.heap[b]? = some (.cells cur ty (0, 0)) ∧ cur.size = cap * sz ∧
    (∀ a v, F a = some v → a.block = b → a.off < n * sz) ∧ (∀ id' o' cs' sz', lk O id' = some o' → μ id' ≠ some (.ob b cs' sz')))
  apart : ∀ id id' ty sz ty' sz' n n' b b' m m' cap cap', id ≠ id' → lt K id = some (ty, sz, n) → lt K id' = some (ty', sz', n') → μ id = some (.tk n (.slice (some b) m cap)) → μ id' = some (.tk n' (.slice (some b') m' cap')) → 0 < cap → 0 < cap' → b.block ≠ b'.block
end Go.AM
end
section
namespace Go.AM
open Go.RowKit
set_option linter.unusedVariables false
set_option linter.unusedSimpArgs false

theorem Tab.Ok.info {P : Program} {T : Tab} (h : Tab.Ok P T) {t : Nat} (hn : T.at t ≠ .none) : ∃ i, P.info? t = some i ∧ (T.at t).kind = kindOf (P.underlying t) ∧ (T.at t).size = i.size ∧ (T.at t).bytes = i.bytes ∧
    (∃ z, i.zero = some z ∧ (T.at t).zero = zeroOf z) ∧ (T.at t).eq = (bif P.eqGuardType P.depth t then none else eqL P 9 t) := by
  rcases h t with h | h
  · cases hi : P.info? t with
    | none => rw [h] at hn; simp [tiOf, hi] at hn
    | some i =>
      cases hz : i.zero with
      | none => rw [h] at hn; simp [tiOf, hi, hz] at hn
      | some z => refine ⟨i, rfl, ?_⟩; rw [h]; simp [tiOf, hi, hz]
  · exact absurd h hn
theorem Tab.ne_none {T : Tab} {t : Nat} {k : TK} (h : (T.at t).kind = k) (hk : k ≠ .other) : T.at t ≠ .none := by
  intro h'; rw [h'] at h; exact hk h.symm
theorem Tab.ne_none' {T : Tab} {t : Nat} (h : (T.at t).size ≠ 0) : T.at t ≠ .none := by
  intro h'; rw [h'] at h; exact h rfl
theorem kind_struct {d : Option TypeDesc} {fs : List (Nat × Nat)} (h : kindOf d = .struct fs) : ∃ gs, d = some (.struct gs) ∧ gs.toList.map (fun f => (f.offset, f.type)) = fs := by
  unfold kindOf at h; split at h <;> simp at h; exact ⟨_, rfl, h⟩
theorem kind_array {d : Option TypeDesc} {n e : Nat} (h : kindOf d = .array n e) : d = some (.array n e) := by
  unfold kindOf at h; split at h <;> simp at h; obtain ⟨rfl, rfl⟩ := h; rfl
theorem kind_slice {d : Option TypeDesc} {e : Nat} (h : kindOf d = .slice e) : d = some (.slice e) := by
  unfold kindOf at h; split at h <;> simp at h; subst h; rfl
theorem kind_int {d : Option TypeDesc} {k : IntKind} (h : kindOf d = .int k) : d = some (.int k) := by
  unfold kindOf at h; split at h <;> simp at h; subst h; rfl
theorem kind_bool {d : Option TypeDesc} (h : kindOf d = .bool) : d = some .bool := by
  unfold kindOf at h; split at h <;> simp at h; rfl
theorem kind_str {d : Option TypeDesc} (h : kindOf d = .str) : d = some .string := by
  unfold kindOf at h; split at h <;> simp at h; rfl
theorem run_und {P : Program} {t : TypeId} {d : TypeDesc} {w : World} (h : P.underlying t = some d) : (underlying t).run P w = .ok d w := run_underlying h w
theorem run_info {P : Program} {t : TypeId} {i : TypeInfo} {w : World} (h : P.info? t = some i) : (typeInfo t).run P w = .ok i w := by simp [typeInfo, h]
theorem run_size {P : Program} {t : TypeId} {i : TypeInfo} {w : World} (h : P.info? t = some i) : (sizeOf t).run P w = .ok i.size w := by simp [sizeOf, run_info h]
theorem underlying_some {P : Program} {t : TypeId} {i : TypeInfo} (h : P.info? t = some i) (hk : kindOf (P.underlying t) ≠ .other ∨ True) : True := trivial

/-- is a value of the type a row of cells? (decided by what lies under it) -/
theorem run_isAgg {P : Program} {t : TypeId} {d : TypeDesc} {w : World} (h : P.underlying t = some d) : (isAgg t).run P w = .ok ((kindOf (some d)).row) w := by
  unfold isAgg
  rw [Sem.run_bind, run_underlying h w]
  cases d <;> simp [kindOf, TK.row]

section
variable {P : Program} {T : Tab} {μ : Pm} {F : Mem} {n0 nx : Nat} {w0 w : World} {O : Objs}

/-- cells that lie in a row, from an offset on -/
def RelC (μ : Pm) (F : Mem) (l : List AV) (cs : List Value) : Prop := cs.length = l.length ∧ ∀ (j : Nat) v, l[j]? = some v → ∃ cv, cs[j]? = some cv ∧ RelV F μ v cv ∧ cv.oneCell' = true
theorem RelC.drop {l : List AV} {cs : List Value} (h : RelC μ F l cs) (k : Nat) : RelC μ F (l.drop k) (cs.drop k) :=
  ⟨by simp [h.1], fun j v hj => by rw [List.getElem?_drop] at hj ⊢; exact h.2 _ _ hj⟩
theorem RelC.take {l : List AV} {cs : List Value} (h : RelC μ F l cs) (k : Nat) : RelC μ F (l.take k) (cs.take k) :=
  ⟨by simp [h.1], fun j v hj => by
    rw [List.getElem?_take] at hj ⊢
    split at hj
    · rw [if_pos (by assumption)]; exact h.2 _ _ hj
    · cases hj⟩
theorem RelC.agg {l : List AV} {cs : List Value} (h : RelC μ F l cs) : RelV F μ (.agg l) (.agg cs.toArray) :=
  .agg (by simp [h.1]) (fun j v hj => by obtain ⟨cv, h1, h2, _⟩ := h.2 j v hj; simp [h1, h2])

/-- an object's element, where it lies -/
theorem RelC.mono {μ' : Pm} (hμ : μ.le μ') {l : List AV} {cs : List Value} (h : RelC μ F l cs) : RelC μ' F l cs :=
  ⟨h.1, fun j v hj => by obtain ⟨cv, h1, h2, h3⟩ := h.2 j v hj; exact ⟨cv, h1, h2.mono hμ (fun _ _ q => q), h3⟩⟩
theorem RelO.elem (h : RelO n0 w0 μ F O nx w) {id : Nat} {o : Ob} (ho : lk O id = some o) {i : Nat} {c : List AV} (hi : o.es[i]? = some c) : ∃ b cs vs, μ id = some (.ob b cs o.sz) ∧ RelC μ F c vs ∧ w.rangeAt b (i * o.sz) vs := by
  obtain ⟨b, cs, cur, hp, _, hb, hcs, hle, hlen, hrel⟩ := h.obj id o ho
  have hc := hlen i c hi
  have hil : i < o.es.length := (List.getElem?_eq_some_iff.1 hi).1
  have hmul : i * o.sz + o.sz ≤ cur.size := by
    have : (i + 1) * o.sz ≤ o.es.length * o.sz := Nat.mul_le_mul_right _ hil
    rw [Nat.add_mul] at this; omega
  refine ⟨b, cs, (cur.toList.drop (i * o.sz)).take o.sz, hp, ⟨by simp [hc]; omega, fun j v hj => ?_⟩, fun j v hj => ?_⟩
  · have hjl : j < o.sz := by rw [← hc]; exact (List.getElem?_eq_some_iff.1 hj).1
    have hlt : i * o.sz + j < cur.size := by omega
    obtain ⟨h1, h2⟩ := hrel i c j v hi hj
    have he : cur.getD (i * o.sz + j) undef = cur[i * o.sz + j] := by simp [Array.getD, hlt]
    rw [he] at h1 h2
    exact ⟨_, by rw [List.getElem?_take, if_pos hjl, List.getElem?_drop]; simp [hlt], h1, h2⟩
  · rw [List.getElem?_take] at hj
    split at hj
    · rw [List.getElem?_drop] at hj
      rw [cell_of_row w b _ cur o.ty (0, 0) hb, ← hj]
      simp
    · cases hj
theorem rangeAt_drop {b o k : Nat} {cs : List Value} (h : w.rangeAt b o cs) : w.rangeAt b (o + k) (cs.drop k) := fun j v hj => by
  rw [List.getElem?_drop] at hj
  have := h _ _ hj
  rwa [← Nat.add_assoc] at this
theorem rangeAt_take {b o k : Nat} {cs : List Value} (h : w.rangeAt b o cs) : w.rangeAt b o (cs.take k) := fun j v hj => by
  rw [List.getElem?_take] at hj
  split at hj
  · exact h _ _ hj
  · cases hj
theorem RelO.rptr (h : RelO n0 w0 μ F O nx w) {l : List AV} {cv : Value} (hr : RelV F μ (.rptr l) cv) : ∃ b o cs, cv = .pointer (some ⟨b, o, none⟩) ∧ RelC Pm0 F l cs ∧ w.rangeAt b o cs ∧ ∀ (j : Nat) v, cs[j]? = some v → F ⟨b, o + j, none⟩ = some v := by
  cases hr with
  | @rptr _ _ b o f hc hrl =>
    have key : ∀ j v, ((List.range l.length).map f)[j]? = some v → j < l.length ∧ v = f j := by
      intro j v hj
      rw [List.getElem?_map] at hj
      cases hq : (List.range l.length)[j]? with
      | none => simp [hq] at hj
      | some q =>
        have := List.getElem?_eq_some_iff.1 hq
        obtain ⟨h1, h2⟩ := this
        simp at h1 h2
        simp [hq] at hj
        exact ⟨h1, by rw [← hj, h2]⟩
    refine ⟨b, o, (List.range l.length).map f, rfl, ⟨by simp, fun j v hj => ?_⟩, fun j v hj => ?_, fun j v hj => ?_⟩
    · have hl : j < l.length := (List.getElem?_eq_some_iff.1 hj).1
      exact ⟨f j, by simp [hl], hrl j v hj, (hc j v hj).2⟩
    · obtain ⟨h1, rfl⟩ := key j v hj
      exact h.mem _ _ (hc j _ (List.getElem?_eq_getElem h1)).1
    · obtain ⟨h1, rfl⟩ := key j v hj
      exact (hc j _ (List.getElem?_eq_getElem h1)).1
theorem rptr_mk {l : List AV} {cs : List Value} {b o : Nat} (h : RelC Pm0 F l cs) (hF : ∀ (j : Nat) v, cs[j]? = some v → F ⟨b, o + j, none⟩ = some v) : RelV F μ (.rptr l) (.pointer (some ⟨b, o, none⟩)) :=
  .rptr (fun j => cs.getD j undef) (fun j v hj => by obtain ⟨cv, h1, h2, h3⟩ := h.2 j v hj; rw [hF j cv h1]; simp [List.getD_eq_getElem?_getD, h1, h3]) (fun j v hj => by obtain ⟨cv, h1, h2, _⟩ := h.2 j v hj; simpa [List.getD_eq_getElem?_getD, h1] using h2)

/-- the value that a load builds of the cells -/
def loadv (ti : TI) (l : List AV) : AV := bif ti.kind.row then .agg (l.take ti.size) else l.headD .und
def loadc (ti : TI) (n : Nat) : Bool := bif ti.kind.row then Nat.ble ti.size n else Nat.blt 0 n
theorem run_load_cells {t : TypeId} {d : TypeDesc} {i : TypeInfo} (hu : P.underlying t = some d) (hi : P.info? t = some i) {ti : TI} (hk : ti.kind = kindOf (some d)) (hs : ti.size = i.size) {b o : Nat} {l : List AV} {cs : List Value} (hr : RelC μ F l cs)
    (hc : w.rangeAt b o cs) (hl : loadc ti l.length = true) : ∃ cv, (Instr.loadAt t (.pointer (some ⟨b, o, none⟩))).run P w = .ok cv w ∧ RelV F μ (loadv ti l) cv := by
  unfold loadc at hl
  unfold loadv
  by_cases hrow : ti.kind.row = true
  · rw [hrow, cond_true] at hl ⊢
    have hle : ti.size ≤ l.length := Nat.le_of_ble_eq_true hl
    refine ⟨.agg (cs.take ti.size).toArray, ?_, (hr.take _).agg⟩
    refine run_loadAt_mid w b o t (cs.take ti.size) d (rangeAt_take hc) hu ?_ ?_
    · rw [hk] at hrow; cases d <;> simp_all [kindOf, TK.row, TypeDesc.isRow]
    · rw [hi, Option.map_some, List.length_take, hr.1, ← hs, Nat.min_eq_left hle]
  · have hrow' : ti.kind.row = false := by simpa using hrow
    rw [hrow', cond_false] at hl ⊢
    cases l with
    | nil => simp [Nat.blt] at hl
    | cons v l =>
      obtain ⟨cv, h1, h2, h3⟩ := hr.2 0 v rfl
      refine ⟨cv, ?_, h2⟩
      have hcell := hc 0 cv h1
      have hag : (isAgg t).run P w = .ok false w := by rw [run_isAgg hu, ← hk, hrow']
      simp only [Nat.add_zero] at hcell
      simp [Instr.loadAt, Instr.sureAddr, loadVar, hag, hcell]
theorem load_sound (hT : Tab.Ok P T) {t : TypeId} {b o : Nat} {l : List AV} {cs : List Value} (hr : RelC μ F l cs) (hn : T.at t ≠ .none)
    (hc : w.rangeAt b o cs) (hl : loadc (T.at t) l.length = true) (hu : (P.underlying t).isSome = true) : ∃ cv, (Instr.loadAt t (.pointer (some ⟨b, o, none⟩))).run P w = .ok cv w ∧ RelV F μ (loadv (T.at t) l) cv := by
  obtain ⟨i, hi, h1, h2, _⟩ := hT.info hn
  obtain ⟨d, hd⟩ := Option.isSome_iff_exists.1 hu
  exact run_load_cells hd hi (by rw [h1, hd]) h2 hr hc hl

end
end Go.AM
end
section
namespace Go.AM
open Go.RowKit
set_option linter.unusedVariables false
set_option linter.unusedSimpArgs false

def TK.known : TK → Bool
  | .other => false
  | _ => true
def kindEq : IntKind → IntKind → Bool
  | .i8, .i8 | .i16, .i16 | .i32, .i32 | .i64, .i64 | .u8, .u8 | .u16, .u16 | .u32, .u32 | .u64, .u64 => true
  | _, _ => false
theorem kindEq_eq {a b : IntKind} (h : kindEq a b = true) : a = b := by cases a <;> cases b <;> first | rfl | simp [kindEq] at h
/-- of two whole numbers of one kind -/
def intOp (k : IntKind) (a b : Int) : BinOp → Option (Prop × AV)
  | .add => some (True, .int k (k.wrap (a + b)))
  | .sub => some (True, .int k (k.wrap (a - b)))
  | .mul => some (True, .int k (k.wrap (a * b)))
  | .quo => some (b ≠ 0, .int k (k.wrap (a.tdiv b)))
  | .rem => some (b ≠ 0, .int k (a.tmod b))
  | .and => some (True, .int k (k.wrap (BitVec.ofInt k.bits a &&& BitVec.ofInt k.bits b).toNat))
  | .or => some (True, .int k (k.wrap (BitVec.ofInt k.bits a ||| BitVec.ofInt k.bits b).toNat))
  | .xor => some (True, .int k (k.wrap (BitVec.ofInt k.bits a ^^^ BitVec.ofInt k.bits b).toNat))
  | .eql => some (True, .bool (a == b))
  | .neq => some (True, .bool (a != b))
  | .lss => some (True, .bool (decide (a < b)))
  | .leq => some (True, .bool (decide (a ≤ b)))
  | .gtr => some (True, .bool (decide (a > b)))
  | .geq => some (True, .bool (decide (a ≥ b)))
  | _ => none
def shOp (k : IntKind) (a b : Int) : BinOp → Option (Prop × AV)
  | .shl => some (0 ≤ b, .int k (k.wrap (a * 2 ^ (min b.toNat k.bits))))
  | .shr => some (0 ≤ b, .int k (a.fdiv (2 ^ (min b.toNat k.bits))))
  | _ => none
/-- two lists of plain cells -/
def eqC : List EK → List AV → List AV → Option Bool
  | [], [], [] => some true
  | .int :: ks, .int k a :: l, .int k' b :: m => bif kindEq k k' then (eqC ks l m).map fun r => (a == b) && r else none
  | .bool :: ks, .bool a :: l, .bool b :: m => (eqC ks l m).map fun r => (a == b) && r
  | .str :: ks, .str a :: l, .str b :: m => (eqC ks l m).map fun r => (a.toList == b.toList) && r
  | _, _, _ => none
def eqOp (r : Bool) : BinOp → Option (Prop × AV)
  | .eql => some (True, .bool r)
  | .neq => some (True, .bool (!r))
  | _ => none
def isSh : BinOp → Bool
  | .shl | .shr => true
  | _ => false
def TK.isB : TK → Bool
  | .bool => true
  | _ => false
def TK.isSt : TK → Bool
  | .struct _ => true
  | _ => false
def TK.isP : TK → Bool
  | .pointer => true
  | _ => false
def abin (T : Tab) (op : BinOp) (t : Nat) (x y : AV) : Option (Prop × AV) :=
  match x, y with
  | .int k a, .int k' b => bif isSh op then shOp k a b op else bif kindEq k k' then intOp k a b op else none
  | .bool a, .bool b => bif (T.at t).kind.isB then eqOp (a == b) op else none
  | .str a, .str b => eqOp (a.toList == b.toList) op
  | .agg l, .agg m => bif (T.at t).kind.isSt then (match (T.at t).eq with
    | some ks => (eqC ks l m).bind fun r => eqOp r op
    | none => none) else none
  | .nilp, .nilp => bif (T.at t).kind.isP then eqOp true op else none
  | .ptr .., .nilp | .nilp, .ptr .. | .rptr _, .nilp | .nilp, .rptr _ => bif (T.at t).kind.isP then eqOp false op else none
  | _, _ => none
def aun (op : UnOp) (x : AV) : Option (Prop × AV) :=
  match op, x with
  | .neg, .int k n => some (True, .int k (k.wrap (0 - n)))
  | .not, .bool b => some (True, .bool !b)
  | _, _ => none
def maxs (k : IntKind) : Int → List AV → Option AV
  | x, [] => some (.int k x)
  | x, .int _ y :: l => maxs k (if y > x then y else x) l
  | _, _ => none
def mins (k : IntKind) : Int → List AV → Option AV
  | x, [] => some (.int k x)
  | x, .int _ y :: l => mins k (if y < x then y else x) l
  | _, _ => none
def AV.plain : AV → Bool
  | .agg _ => true
  | v => v.one
/-- parts laid into cells -/
def afill (pl : Nat → Option (Nat × Nat)) (cells : List AV) : List (Nat × AV) → Option (List AV)
  | [] => some cells
  | (i, v) :: r => match pl i with
    | none => none
    | some (off, size) => bif Nat.beq v.cells.length size && Nat.ble (off + size) cells.length && v.plain then afill pl (cells.take off ++ v.cells ++ cells.drop (off + size)) r else none
def aLoad (T : Tab) (O : Objs) (t : Nat) (x : AV) : Option (Prop × AV) :=
  bif (T.at t).kind.known then (match x with
    | .ptr id i j => match lk O id with
      | some o => some ((Nat.blt i o.es.length && loadc (T.at t) (o.sz - j)) = true, loadv (T.at t) ((o.es.getD i []).drop j))
      | none => none
    | .rptr l => some (loadc (T.at t) l.length = true, loadv (T.at t) l)
    | _ => none) else none
def aFieldAddr (T : Tab) (s : Nat) (x : AV) (f : Nat) : Option (Prop × AV) :=
  match (T.at s).kind with
  | .struct fs => match fs[f]? with
    | some (off, ft) => bif Nat.beq (T.at ft).size 0 then none else (match x with
      | .ptr id i j => some (True, .ptr id i (j + off))
      | .rptr l => some (True, .rptr (l.drop off))
      | _ => none)
    | none => none
  | _ => none
def aPart (ti : TI) (l : List AV) (off : Nat) : Option (Prop × AV) :=
  bif ti.kind.row then some (Nat.ble (off + ti.size) l.length = true, .agg ((l.drop off).take ti.size)) else (l[off]?).map fun v => (True, v)
def aField (T : Tab) (t : Nat) (x : AV) (f : Nat) : Option (Prop × AV) :=
  match (T.at t).kind with
  | .struct fs => match fs[f]? with
    | some (off, ft) => bif (T.at ft).kind.known then (match x with
      | .agg l => aPart (T.at ft) l off
      | _ => none) else none
    | none => none
  | _ => none
def aIndexAddr (T : Tab) (O : Objs) (t : Nat) (x ix : AV) : Option (Prop × AV) :=
  match ix with
  | .int _ n => match (T.at t).kind with
    | .slice el => match x with
      | .row id i m => match lk O id with
        | some o => some ((0 ≤ n ∧ n < (m : Int)) ∧ (Nat.beq o.sz (T.at el).size && !Nat.beq (T.at el).size 0) = true, .ptr id (i + n.toNat) 0)
        | none => none
      | .ro l => some ((0 ≤ n ∧ n < (l.length : Int)) ∧ (Nat.beq (l.getD n.toNat []).length (T.at el).size && !Nat.beq (T.at el).size 0) = true, .rptr (l.getD n.toNat []))
      | .app _ l => some ((0 ≤ n ∧ n < (l.length : Int)) ∧ (Nat.beq (l.getD n.toNat []).length (T.at el).size && !Nat.beq (T.at el).size 0) = true, .rptr (l.getD n.toNat []))
      | _ => none
    | .array m el => match x with
      | .ptr id i j => some ((0 ≤ n ∧ n < (m : Int)) ∧ (Nat.blt 1 m && !Nat.beq (T.at el).size 0) = true, .ptr id i (j + n.toNat * (T.at el).size))
      | .rptr l => some ((0 ≤ n ∧ n < (m : Int)) ∧ (Nat.blt 1 m && !Nat.beq (T.at el).size 0) = true, .rptr (l.drop (n.toNat * (T.at el).size)))
      | _ => none
    | _ => none
  | _ => none
def aIndex (T : Tab) (t : Nat) (x ix : AV) : Option (Prop × AV) :=
  match ix with
  | .int _ n => match (T.at t).kind with
    | .array m el => match x with
      | .agg l => some ((0 ≤ n ∧ n < (m : Int)) ∧ (Nat.beq (T.at el).size 1 && !(T.at el).kind.row && (T.at el).kind.known && Nat.beq l.length m) = true, l.getD n.toNat .und)
      | _ => none
    | _ => none
  | _ => none
def aConv (T : Tab) (s d : Nat) (x : AV) : Option (Prop × AV) :=
  match (T.at s).kind with
  | .int _ => match (T.at d).kind with
    | .int k => match x with
      | .int _ n => some (True, .int k (k.wrap n))
      | _ => none
    | _ => none
  | _ => none
def aBuild (T : Tab) (t : Nat) (ps : List (Nat × AV)) : Option (Prop × AV) :=
  match (T.at t).kind with
  | .struct fs => (afill (fun i => (fs[i]?).map fun q => (q.1, (T.at q.2).size)) (T.at t).zero ps).map fun l => (fs.all (fun q => !(Nat.beq (T.at q.2).size 0)) = true, .agg l)
  | .array n el => (afill (fun i => some (i * (T.at el).size, (T.at el).size)) (T.at t).zero ps).map fun l => ((!(Nat.beq (T.at el).size 0)) = true, .agg l)
  | _ => none
def aLen (k : TK) (x : AV) : Option (Prop × AV) :=
  match k with
  | .slice _ => match x with
    | .row _ _ n => some (True, .int .i64 n)
    | .ro l => some (True, .int .i64 l.length)
    | .app _ l => some (True, .int .i64 l.length)
    | .nils => some (True, .int .i64 0)
    | _ => none
  | .str => match x with
    | .str s => some (True, .int .i64 s.size)
    | _ => none
  | .array n _ => some (True, .int .i64 n)
  | _ => none
def aNil (x : AV) : Option (Prop × AV) :=
  match x with
  | .ptr id i j => some (True, .ptr id i j)
  | .rptr l => some (True, .rptr l)
  | .fn f fs cs => some (True, .fn f fs cs)
  | _ => none
def aval (T : Tab) (O : Objs) (e : Operand → AV) (op : Op) : Option (Prop × AV) :=
  match op with
  | .move x | .assign x => some (True, e x)
  | .load t x => aLoad T O t (e x)
  | .fieldAddr s x f => aFieldAddr T s (e x) f
  | .field t x f => aField T t (e x) f
  | .indexAddr t x ix => aIndexAddr T O t (e x) (e ix)
  | .index t x ix => aIndex T t (e x) (e ix)
  | .binOp op t x y _ => abin T op t (e x) (e y)
  | .unOp op _ x => aun op (e x)
  | .convert s d x => aConv T s d (e x)
  | .extract x i => match e x with
    | .tup l => (l[i]?).map fun v => (True, v)
    | _ => none
  | .build t ps => aBuild T t (ps.toList.map fun q => (q.1, e q.2))
  | .makeFunc (.func f) fs cs => some (True, .fn f (fs.toList.map e) (cs.toList.map e))
  | .nilCheck x => aNil (e x)
  | .call c => match c.callee with
    | .builtin .len => match c.args.toList, c.argTypes.toList with
      | [x], t :: _ => aLen (T.at t).kind (e x)
      | _, _ => none
    | .builtin .max => match c.args.toList.map e with
      | .int k x :: l => (maxs k x l).map fun v => (True, v)
      | _ => none
    | .builtin .min => match c.args.toList.map e with
      | .int k x :: l => (mins k x l).map fun v => (True, v)
      | _ => none
    | _ => none
  | _ => none
end Go.AM
end
section
namespace Go.AM
open Go.RowKit
set_option linter.unusedVariables false
set_option linter.unusedSimpArgs false
section
variable {P : Program} {T : Tab} {μ : Pm} {F : Mem} {n0 nx : Nat} {w0 w : World} {O : Objs} {e : Operand → AV} {ρ : Operand → Value}

def Yl (P : Program) (μ : Pm) (F : Mem) (w : World) (s : Sem Value) (v : AV) : Prop := ∃ cv, s.run P w = .ok cv w ∧ RelV F μ v cv
theorem Tab.known {t : Nat} (hT : Tab.Ok P T) (hk : (T.at t).kind.known = true) : ∃ i d, P.info? t = some i ∧ P.underlying t = some d ∧ (T.at t).kind = kindOf (some d) ∧ (T.at t).size = i.size ∧ True := by
  obtain ⟨i, h1, h2, h3, _, h5, _⟩ := hT.info (t := t) (by intro h'; rw [h'] at hk; simp [TI.none, TK.known] at hk)
  cases hd : P.underlying t with
  | none => rw [h2, hd] at hk; simp [kindOf, TK.known] at hk
  | some d => exact ⟨i, d, h1, rfl, by rw [h2, hd], h3, trivial⟩

theorem load_yl (hT : Tab.Ok P T) (hO : RelO n0 w0 μ F O nx w) {t : Nat} {x : AV} {cx : Value} (hx : RelV F μ x cx) {c : Prop} {v : AV}
    (h : aLoad T O t x = some (c, v)) (hc : c) : Yl P μ F w (Instr.loadAt t cx) v := by
  unfold aLoad at h
  cases hk : (T.at t).kind.known with
  | false => rw [hk, cond_false] at h; cases h
  | true =>
    rw [hk, cond_true] at h
    obtain ⟨i, d, hi, hd, hkd, hs, _⟩ := Tab.known hT hk
    have hn : T.at t ≠ .none := by intro h'; rw [h'] at hk; simp [TI.none, TK.known] at hk
    cases x with
    | ptr id q j =>
      dsimp only at h
      cases ho : lk O id with
      | none => rw [ho] at h; cases h
      | some o =>
        rw [ho] at h
        simp only [Option.some.injEq, Prod.mk.injEq] at h
        obtain ⟨rfl, rfl⟩ := h
        simp only [Bool.and_eq_true, Nat.blt_eq] at hc
        obtain ⟨hq, hl⟩ := hc
        have hq' : o.es[q]? = some (o.es.getD q []) := by simp [List.getD_eq_getElem?_getD, hq]
        obtain ⟨b, cs, vs, hp, hr, hrange⟩ := hO.elem ho hq'
        cases hx with
        | ptr hp' =>
          rw [hp] at hp'; cases hp'
          obtain ⟨_, _, _, _, _, _, _, _, hlen, _⟩ := hO.obj id o ho
          have hl' : (o.es.getD q []).length = o.sz := hlen q _ hq'
          exact load_sound hT (hr.drop j) hn (rangeAt_drop hrange) (by rw [List.length_drop, hl']; exact hl) (by simp [hd])
    | rptr l =>
      simp only [Option.some.injEq, Prod.mk.injEq] at h
      obtain ⟨rfl, rfl⟩ := h
      obtain ⟨b, o, cs, rfl, hr, hrange, _⟩ := hO.rptr hx
      exact load_sound hT (hr.mono (Pm.le0 _)) hn hrange hc (by simp [hd])
    | _ => cases h

theorem field_get {gs : Array Field} {fs : List (Nat × Nat)} (hm : gs.toList.map (fun f => (f.offset, f.type)) = fs) {f off ft : Nat} (h : fs[f]? = some (off, ft)) : ∃ g, gs[f]? = some g ∧ g.offset = off ∧ g.type = ft := by
  subst hm
  rw [List.getElem?_map] at h
  cases hg : gs.toList[f]? with
  | none => simp [hg] at h
  | some g => simp [hg] at h; exact ⟨g, by simpa using hg, h.1, h.2⟩

theorem fieldAddr_yl (hT : Tab.Ok P T) (hO : RelO n0 w0 μ F O nx w) {s f : Nat} {x : AV} {cx : Value} (hx : RelV F μ x cx) {c : Prop} {v : AV}
    (h : aFieldAddr T s x f = some (c, v)) : Yl P μ F w (Instr.fieldAt s cx f) v := by
  unfold aFieldAddr at h
  split at h
  · rename_i fs hk
    obtain ⟨i, hi, h1, _⟩ := hT.info (Tab.ne_none hk (by simp))
    rw [h1] at hk
    obtain ⟨gs, hu, hm⟩ := kind_struct hk
    split at h
    · rename_i off ft hf
      obtain ⟨g, hg, rfl, rfl⟩ := field_get hm hf
      cases hz : Nat.beq (T.at g.type).size 0 with
      | true => rw [hz] at h; cases h
      | false =>
        rw [hz, cond_false] at h
        have hz' : (T.at g.type).size ≠ 0 := by intro h'; rw [h'] at hz; simp at hz
        obtain ⟨j, hj, _, hsz, _⟩ := hT.info (Tab.ne_none' hz')
        rw [hsz] at hz'
        have hrun : ∀ (a : Addr), (Instr.fieldAt s (.pointer (some a)) f).run P w = .ok (.pointer (some (a.add g.offset))) w := by
          intro a
          simp [Instr.fieldAt, run_und hu, hg, Instr.sureAddr, fieldPlace, run_size hj, hz']
        cases x with
        | ptr id i j =>
          simp only [Option.some.injEq, Prod.mk.injEq] at h
          obtain ⟨rfl, rfl⟩ := h
          cases hx with
          | ptr hp => exact ⟨_, hrun _, by rw [Addr.add_mid, Nat.add_assoc]; exact .ptr hp⟩
        | rptr l =>
          simp only [Option.some.injEq, Prod.mk.injEq] at h
          obtain ⟨rfl, rfl⟩ := h
          obtain ⟨b, o, cs, rfl, hr, hrange, hF⟩ := hO.rptr hx
          exact ⟨_, hrun _, by rw [Addr.add_mid]; exact rptr_mk (hr.drop _) (fun j v hj => by rw [List.getElem?_drop] at hj; rw [Nat.add_assoc]; exact hF _ _ hj)⟩
        | _ => cases h
    · cases h
  · cases h

theorem part_agg (hT : Tab.Ok P T) {t off : Nat} {l : List AV} {A : Array Value} (hA : A.size = l.length) (hl : ∀ (j : Nat) v, l[j]? = some v → RelV F μ v (A.getD j undef)) {c : Prop} {v : AV}
    (h : aPart (T.at t) l off = some (c, v)) (hk : (T.at t).kind.known = true) (hc : c) : Yl P μ F w (part t A off) v := by
  unfold aPart at h
  obtain ⟨i, d, hi, hd, hkd, hs, _⟩ := Tab.known hT hk
  have hag : (isAgg t).run P w = .ok (T.at t).kind.row w := by rw [run_isAgg hd, ← hkd]
  cases hrow : (T.at t).kind.row with
  | true =>
    rw [hrow, cond_true] at h
    simp only [Option.some.injEq, Prod.mk.injEq] at h
    obtain ⟨rfl, rfl⟩ := h
    have hle := Nat.le_of_ble_eq_true hc
    refine ⟨.agg (A.extract off (off + i.size)), by simp [part, hag, hrow, run_size hi], ?_⟩
    rw [← hs]
    refine .agg (by simp; omega) (fun j v hj => ?_)
    rw [List.getElem?_take] at hj
    split at hj
    · rename_i hjs
      rw [List.getElem?_drop] at hj
      have := hl _ _ hj
      have hlt : off + j < A.size := by rw [hA]; exact (List.getElem?_eq_some_iff.1 hj).1
      have h2 : j < (A.extract off (off + (T.at t).size)).size := by simp; omega
      have h3 : (A.extract off (off + (T.at t).size)).getD j undef = A.getD (off + j) undef := by
        rw [Array.getD_eq_getD_getElem?, Array.getD_eq_getD_getElem?, Array.getElem?_extract]
        rw [if_pos (by omega)]
      rw [h3]; exact this
    · cases hj
  | false =>
    rw [hrow, cond_false] at h
    cases hv : l[off]? with
    | none => rw [hv] at h; cases h
    | some u =>
      rw [hv] at h
      simp only [Option.map_some, Option.some.injEq, Prod.mk.injEq] at h
      obtain ⟨_, rfl⟩ := h
      have hlt : off < A.size := by rw [hA]; exact (List.getElem?_eq_some_iff.1 hv).1
      refine ⟨A[off], by simp [part, hag, hrow, hlt], ?_⟩
      have := hl _ _ hv
      simpa [Array.getD, hlt] using this
theorem field_yl (hT : Tab.Ok P T) {t f : Nat} {x : AV} {cx : Value} (hx : RelV F μ x cx) {c : Prop} {v : AV}
    (h : aField T t x f = some (c, v)) (hc : c) : Yl P μ F w (Instr.field t cx f) v := by
  unfold aField at h
  split at h
  · rename_i fs hk
    obtain ⟨i, hi, h1, _⟩ := hT.info (Tab.ne_none hk (by simp))
    rw [h1] at hk
    obtain ⟨gs, hu, hm⟩ := kind_struct hk
    split at h
    · rename_i off ft hf
      obtain ⟨g, hg, rfl, rfl⟩ := field_get hm hf
      cases hkn : (T.at g.type).kind.known with
      | false => rw [hkn] at h; cases h
      | true =>
        rw [hkn, cond_true] at h
        cases x with
        | agg l =>
          cases hx with
          | @agg _ _ A hA hl =>
            obtain ⟨cv, h3, h4⟩ := part_agg (w := w) hT hA hl h hkn hc
            exact ⟨cv, by simp [Instr.field, run_und hu, hg, asAgg, h3], h4⟩
        | _ => cases h
    · cases h
  · cases h

theorem ro_index (hT : Tab.Ok P T) {t el : Nat} {k : IntKind} {n : Int} {l : List (List AV)} {cx : Value} (hx : RelV F μ (.ro l) cx) (hk : (T.at t).kind = .slice el) (hn0 : 0 ≤ n) (hn1 : n < (l.length : Int))
    (hs : (Nat.beq (l.getD n.toNat []).length (T.at el).size && !Nat.beq (T.at el).size 0) = true) : Yl P μ F w (Instr.indexAt t cx (.int k n)) (.rptr (l.getD n.toNat [])) := by
  obtain ⟨ti, hti, h1, _⟩ := hT.info (Tab.ne_none hk (by simp))
  rw [h1] at hk
  have hu := kind_slice hk
  simp only [Bool.and_eq_true, Bool.not_eq_true'] at hs
  obtain ⟨hs1, hs2⟩ := hs
  have hs1 := Nat.eq_of_beq_eq_true hs1
  have hs3 : (T.at el).size ≠ 0 := by intro h'; rw [h'] at hs2; simp at hs2
  obtain ⟨ei, hei, _, hsz, _⟩ := hT.info (Tab.ne_none' hs3)
  have hlt : n.toNat < l.length := by omega
  have hget : l[n.toNat]? = some (l.getD n.toNat []) := by simp [List.getD_eq_getElem?_getD, hlt]
  cases hx with
  | ro0 => simp at hlt
  | @ro _ _ b o cap sz a cv hz hcc hr hcap hmax ha =>
    obtain rfl := ha (by intro h'; rw [h'] at hlt; simp at hlt)
    have hsz' : sz = ei.size := by rw [← hsz, ← hs1, hz _ _ hget]
    refine ⟨.pointer (some ((⟨b, o, none⟩ : Addr).add (n.toNat * ei.size))), ?_, ?_⟩
    · simp [Instr.indexAt, asIntOf, run_und hu, hn0, hn1, run_size hei]
    · rw [Addr.add_mid, ← hsz']
      exact .rptr (cv n.toNat) (fun j v hj => hcc _ _ _ _ hget hj) (fun j v hj => hr _ _ _ _ hget hj)
theorem indexAddr_yl (hT : Tab.Ok P T) (hO : RelO n0 w0 μ F O nx w) {t : Nat} {x ix : AV} {cx ci : Value} (hx : RelV F μ x cx) (hix : RelV F μ ix ci) {c : Prop} {v : AV}
    (h : aIndexAddr T O t x ix = some (c, v)) (hc : c) : Yl P μ F w (Instr.indexAt t cx ci) v := by
  unfold aIndexAddr at h
  cases ix with
  | int k n =>
    cases hix with
    | int =>
    dsimp only at h
    cases hk : (T.at t).kind with
    | slice el =>
      have hk0 := hk
      rw [hk] at h
      obtain ⟨ti, hti, h1, _⟩ := hT.info (Tab.ne_none hk (by simp))
      rw [h1] at hk
      have hu := kind_slice hk
      cases x with
      | row id i m =>
        dsimp only at h
        split at h
        · rename_i o ho
          simp only [Option.some.injEq, Prod.mk.injEq] at h
          obtain ⟨rfl, rfl⟩ := h
          obtain ⟨⟨hn0, hn1⟩, hs⟩ := hc
          simp only [Bool.and_eq_true, Bool.not_eq_true'] at hs
          obtain ⟨hs1, hs2⟩ := hs
          have hs1 := Nat.eq_of_beq_eq_true hs1
          have hs3 : (T.at el).size ≠ 0 := by intro h'; rw [h'] at hs2; simp at hs2
          obtain ⟨ei, hei, _, hsz, _⟩ := hT.info (Tab.ne_none' hs3)
          obtain ⟨b, cs, cur, hp, _⟩ := hO.obj id o ho
          cases hx with
          | @row _ _ _ _ cap b' cs' sz' a hp' hmc hmax ha =>
            rw [hp] at hp'; cases hp'
            have hcap : cap ≠ 0 := by omega
            obtain ⟨rfl, _⟩ := ha hcap
            refine ⟨.pointer (some ((⟨b, i * o.sz, none⟩ : Addr).add (n.toNat * ei.size))), ?_, ?_⟩
            · simp [Instr.indexAt, asIntOf, run_und hu, hn0, hn1, run_size hei]
            · rw [Addr.add_mid, ← hsz, ← hs1, ← Nat.add_mul]
              exact RelV.ptr (j := 0) hp
        · cases h
      | ro l =>
        dsimp only at h
        simp only [Option.some.injEq, Prod.mk.injEq] at h
        obtain ⟨rfl, rfl⟩ := h
        obtain ⟨⟨hn0, hn1⟩, hs⟩ := hc
        exact ro_index hT hx hk0 hn0 hn1 hs
      | app tok l =>
        dsimp only at h
        simp only [Option.some.injEq, Prod.mk.injEq] at h
        obtain ⟨rfl, rfl⟩ := h
        obtain ⟨⟨hn0, hn1⟩, hs⟩ := hc
        cases hx with
        | app hro _ _ _ => exact ro_index hT (hro.mono (Pm.le0 _) (fun _ _ q => q)) hk0 hn0 hn1 hs
      | _ => cases h
    | array m el =>
      rw [hk] at h
      obtain ⟨ti, hti, h1, _⟩ := hT.info (Tab.ne_none hk (by simp))
      rw [h1] at hk
      have hu := kind_array hk
      cases x with
      | ptr id i j =>
        dsimp only at h
        simp only [Option.some.injEq, Prod.mk.injEq] at h
        obtain ⟨rfl, rfl⟩ := h
        obtain ⟨⟨hn0, hn1⟩, hs⟩ := hc
        simp only [Bool.and_eq_true, Nat.blt_eq, Bool.not_eq_true'] at hs
        obtain ⟨hs1, hs2⟩ := hs
        have hs3 : (T.at el).size ≠ 0 := by intro h'; rw [h'] at hs2; simp at hs2
        obtain ⟨ei, hei, _, hsz, _⟩ := hT.info (Tab.ne_none' hs3)
        cases hx with
        | @ptr _ _ _ _ b cs sz hp =>
          refine ⟨.pointer (some ((⟨b, i * sz + j, none⟩ : Addr).add (n.toNat * ei.size))), ?_, ?_⟩
          · simp [Instr.indexAt, asIntOf, run_und hu, hn0, hn1, run_size hei, Instr.sureAddr]
          · rw [Addr.add_mid, ← hsz, Nat.add_assoc]
            exact RelV.ptr hp
      | rptr l =>
        dsimp only at h
        simp only [Option.some.injEq, Prod.mk.injEq] at h
        obtain ⟨rfl, rfl⟩ := h
        obtain ⟨⟨hn0, hn1⟩, hs⟩ := hc
        simp only [Bool.and_eq_true, Nat.blt_eq, Bool.not_eq_true'] at hs
        obtain ⟨hs1, hs2⟩ := hs
        have hs3 : (T.at el).size ≠ 0 := by intro h'; rw [h'] at hs2; simp at hs2
        obtain ⟨ei, hei, _, hsz, _⟩ := hT.info (Tab.ne_none' hs3)
        obtain ⟨b, o, cs, rfl, hr, hrange, hF⟩ := hO.rptr hx
        refine ⟨.pointer (some ((⟨b, o, none⟩ : Addr).add (n.toNat * ei.size))), ?_, ?_⟩
        · simp [Instr.indexAt, asIntOf, run_und hu, hn0, hn1, run_size hei, Instr.sureAddr]
        · rw [Addr.add_mid, ← hsz]
          exact rptr_mk (hr.drop _) (fun j v hj => by rw [List.getElem?_drop] at hj; rw [Nat.add_assoc]; exact hF _ _ hj)
      | _ => cases h
    | _ => rw [hk] at h; cases h
  | _ => cases h
end
end Go.AM
end
section
namespace Go.AM
open Go.RowKit
set_option linter.unusedVariables false
set_option linter.unusedSimpArgs false
section
variable {P : Program} {T : Tab} {μ : Pm} {F : Mem} {n0 nx : Nat} {w0 w : World} {O : Objs} {e : Operand → AV} {ρ : Operand → Value}

theorem intOp_run {k : IntKind} {a b : Int} {op : BinOp} {c : Prop} {v : AV} (h : intOp k a b op = some (c, v)) (hc : c) (t : TypeId) : Yl P μ F w (binOp op t (.int k a) (.int k b)) v := by
  have hd : ∀ o, (o = BinOp.quo ∨ o = BinOp.rem) → b ≠ 0 → (binOp o t (.int k a) (.int k b)).run P w = .ok (if o = .quo then .int k (k.wrap (a.tdiv b)) else .int k (a.tmod b)) w := by
    rintro o (rfl | rfl) hb <;> simp [binOp, Op.intDiv, hb]
  cases op <;> simp only [intOp, Option.some.injEq, Prod.mk.injEq, reduceCtorEq] at h <;> obtain ⟨rfl, rfl⟩ := h
  case quo => exact ⟨_, hd _ (.inl rfl) hc, .int _ _⟩
  case rem => exact ⟨_, hd _ (.inr rfl) hc, .int _ _⟩
  case add => exact ⟨_, by simp [binOp, Op.intArith, Op.intBits], .int _ _⟩
  case sub => exact ⟨_, by simp [binOp, Op.intArith, Op.intBits], .int _ _⟩
  case mul => exact ⟨_, by simp [binOp, Op.intArith, Op.intBits], .int _ _⟩
  case and => exact ⟨_, by simp [binOp, Op.intArith, Op.intBits], .int _ _⟩
  case or => exact ⟨_, by simp [binOp, Op.intArith, Op.intBits], .int _ _⟩
  case xor => exact ⟨_, by simp [binOp, Op.intArith, Op.intBits], .int _ _⟩
  all_goals (refine ⟨_, ?_, .bool _⟩; simp [binOp, Op.intCmp])
theorem shOp_run {k k' : IntKind} {a b : Int} {op : BinOp} {c : Prop} {v : AV} (h : shOp k a b op = some (c, v)) (hc : c) (t : TypeId) : Yl P μ F w (binOp op t (.int k a) (.int k' b)) v := by
  cases op <;> simp only [shOp, Option.some.injEq, Prod.mk.injEq, reduceCtorEq] at h <;> obtain ⟨rfl, rfl⟩ := h <;> refine ⟨_, ?_, .int _ _⟩ <;>
    (have : ¬ b < 0 := by omega) <;> simp only [binOp, Op.shift, this, if_false] <;> rfl

def RelA (μ : Pm) (F : Mem) (l : List AV) (A : Array Value) : Prop := A.size = l.length ∧ ∀ (j : Nat) v, l[j]? = some v → RelV F μ v (A.getD j undef)
theorem RelA.cut {l : List AV} {A : Array Value} (h : RelA μ F l A) (o n : Nat) (hn : o + n ≤ l.length) : RelA μ F ((l.drop o).take n) (A.extract o (o + n)) := by
  refine ⟨by simp [h.1]; omega, fun j v hj => ?_⟩
  rw [List.getElem?_take] at hj
  split at hj
  · rw [List.getElem?_drop] at hj
    have := h.2 _ _ hj
    have hlt : o + j < A.size := by rw [h.1]; exact (List.getElem?_eq_some_iff.1 hj).1
    have h3 : (A.extract o (o + n)).getD j undef = A.getD (o + j) undef := by
      rw [Array.getD_eq_getD_getElem?, Array.getD_eq_getD_getElem?, Array.getElem?_extract]
      rw [if_pos (by omega)]
    rw [h3]; exact this
  · cases hj
theorem eqC_len {ks : List EK} : ∀ {l m : List AV} {r : Bool}, eqC ks l m = some r → l.length = ks.length ∧ m.length = ks.length := by
  induction ks with
  | nil => intro l m r h; cases l <;> cases m <;> simp [eqC] at h ⊢
  | cons k ks ih =>
    intro l m r h
    cases l with
    | nil => cases k <;> simp [eqC] at h
    | cons x l =>
      cases m with
      | nil => cases k <;> cases x <;> simp [eqC] at h
      | cons y m =>
        have key : ∃ s, eqC ks l m = some s := by
          cases k <;> cases x <;> cases y <;> simp only [eqC, reduceCtorEq] at h
          · rename_i k a k' b
            cases hk : kindEq k k' <;> rw [hk] at h <;> simp only [cond_true, cond_false, reduceCtorEq, Option.map_eq_some_iff] at h
            exact ⟨_, h.choose_spec.1⟩
          all_goals
            simp only [Option.map_eq_some_iff] at h
            exact ⟨_, h.choose_spec.1⟩
        obtain ⟨s, hs⟩ := key
        have := ih hs
        simp [this]
theorem eqC_app {a b : List EK} : ∀ {l m : List AV} {r : Bool}, eqC (a ++ b) l m = some r → ∃ r1 r2, eqC a (l.take a.length) (m.take a.length) = some r1 ∧ eqC b (l.drop a.length) (m.drop a.length) = some r2 ∧ r = (r1 && r2) := by
  induction a with
  | nil => intro l m r h; exact ⟨true, r, rfl, h, by simp⟩
  | cons k a ih =>
    intro l m r h
    cases l with
    | nil => cases k <;> simp [eqC] at h
    | cons x l =>
      cases m with
      | nil => cases k <;> cases x <;> simp [eqC] at h
      | cons y m =>
        simp only [List.cons_append, List.length_cons, List.take_succ_cons, List.drop_succ_cons] at h ⊢
        cases k <;> cases x <;> cases y <;> simp only [eqC, reduceCtorEq] at h ⊢
        · rename_i k a k' b
          cases hk : kindEq k k' <;> rw [hk] at h <;> simp only [cond_true, cond_false, reduceCtorEq, Option.map_eq_some_iff] at h ⊢
          obtain ⟨s, hs, rfl⟩ := h
          obtain ⟨r1, r2, h1, h2, rfl⟩ := ih hs
          exact ⟨_, r2, ⟨r1, h1, rfl⟩, h2, by rw [Bool.and_assoc]⟩
        all_goals
          simp only [Option.map_eq_some_iff] at h ⊢
          obtain ⟨s, hs, rfl⟩ := h
          obtain ⟨r1, r2, h1, h2, rfl⟩ := ih hs
          exact ⟨_, r2, ⟨r1, h1, rfl⟩, h2, by rw [Bool.and_assoc]⟩
/-- what '==' comes to at a type -/
def EqRuns (P : Program) (w : World) (D : Nat) (t : TypeId) (A B : Array Value) (r : Bool) : Prop :=
  match P.underlying t with
  | some (.struct _) => (Op.equalIn D t (.agg A) (.agg B)).run P w = .ok r w
  | _ => ∃ x y, A = #[x] ∧ B = #[y] ∧ (Op.equalIn D t x y).run P w = .ok r w
theorem RelA.single {l : List AV} {A : Array Value} (h : RelA μ F l A) (hl : l.length = 1) : ∃ u x, l = [u] ∧ A = #[x] ∧ RelV F μ u x := by
  obtain ⟨u, rfl⟩ := List.length_eq_one_iff.1 hl
  obtain ⟨x, rfl⟩ := Array.size_eq_one_iff.1 (by rw [h.1]; rfl)
  exact ⟨u, x, rfl, rfl, h.2 0 u rfl⟩
theorem part_row {P : Program} {w : World} {t : TypeId} {fs : Array Field} {off : Nat} {A : Array Value} {i : TypeInfo} (hu : P.underlying t = some (.struct fs)) (hi : P.info? t = some i) : (part t A off).run P w = .ok (.agg (A.extract off (off + i.size))) w := by
  simp [part, run_isAgg hu, kindOf, TK.row, run_size hi]
theorem eqL_run (d : Nat) : ∀ (t : TypeId) (ks : List EK), eqL P d t = some ks → ∀ (D : Nat), d ≤ D → ∀ (l m : List AV) (A B : Array Value), RelA μ F l A → RelA μ F m B → ∀ (r : Bool), eqC ks l m = some r → EqRuns P w D t A B r := by
  induction d with
  | zero => intro t ks h; simp [eqL] at h
  | succ d ih =>
    intro t ks ht D hD l m A B hA hB r hr
    obtain ⟨D, rfl⟩ : ∃ D', D = D' + 1 := ⟨D - 1, by omega⟩
    have hlen := eqC_len hr
    simp only [eqL] at ht
    unfold EqRuns
    split at ht
    · rename_i hu
      rw [hu]
      cases ht
      obtain ⟨u, x, rfl, rfl, h1⟩ := hA.single hlen.1
      obtain ⟨v, y, rfl, rfl, h2⟩ := hB.single hlen.2
      refine ⟨x, y, rfl, rfl, ?_⟩
      cases u <;> cases v <;> simp [eqC] at hr
      subst hr
      cases h1; cases h2; exact run_equalIn_bool w D t _ _ hu
    · rename_i k hu
      rw [hu]
      cases ht
      obtain ⟨u, x, rfl, rfl, h1⟩ := hA.single hlen.1
      obtain ⟨v, y, rfl, rfl, h2⟩ := hB.single hlen.2
      refine ⟨x, y, rfl, rfl, ?_⟩
      cases u <;> cases v <;> simp only [eqC, reduceCtorEq] at hr
      rename_i k1 a k2 b
      cases hk : kindEq k1 k2 <;> rw [hk] at hr <;> simp at hr
      subst hr
      obtain rfl := kindEq_eq hk
      cases h1; cases h2; exact run_equalIn_int w D t _ k _ _ hu
    · rename_i hu
      rw [hu]
      cases ht
      obtain ⟨u, x, rfl, rfl, h1⟩ := hA.single hlen.1
      obtain ⟨v, y, rfl, rfl, h2⟩ := hB.single hlen.2
      refine ⟨x, y, rfl, rfl, ?_⟩
      cases u <;> cases v <;> simp [eqC] at hr
      cases h1; cases h2; rw [run_equalIn_string w D t _ _ hu, ← hr]
    · rename_i fs hu
      rw [hu]
      cases hst : P.stoodInHeld t <;> rw [hst] at ht <;> simp only [cond_true, cond_false, reduceCtorEq] at ht
      have hf : P.fieldsOf t = fs := by simp [Program.fieldsOf, hu]
      dsimp only
      rw [run_equalIn_struct w D t A B (by rw [hf]; exact hu) hst, hf]
      have key : ∀ (gs : List Field) (o : Nat) (ks : List EK), eqGo (eqL P d) P gs o = some ks → ∀ r, eqC ks (l.drop o) (m.drop o) = some r → o + ks.length ≤ l.length → o + ks.length ≤ m.length → (Op.eqFields D A B gs).run P w = .ok r w := by
        intro gs
        induction gs with
        | nil =>
          intro o ks h r hr _ _
          simp only [eqGo] at h
          cases h
          have := eqC_len hr
          have h1 : l.drop o = [] := List.eq_nil_of_length_eq_zero this.1
          have h2 : m.drop o = [] := List.eq_nil_of_length_eq_zero this.2
          rw [h1, h2] at hr
          simp [eqC] at hr
          subst hr
          simp [Op.eqFields]
        | cons f gs ihg =>
          intro o ks h r hr hol hom
          simp only [eqGo] at h
          cases hn : (f.name != "_" && f.offset == o) <;> rw [hn] at h <;> simp only [cond_true, cond_false, reduceCtorEq] at h
          simp only [Bool.and_eq_true, bne_iff_ne, ne_eq, beq_iff_eq] at hn
          obtain ⟨hn, rfl⟩ := hn
          split at h
          · rename_i a ha
            cases hsz : (P.cellsOf f.type == a.length) <;> rw [hsz] at h <;> simp only [cond_true, cond_false, reduceCtorEq, Option.map_eq_some_iff] at h
            obtain ⟨ks', hks, rfl⟩ := h
            obtain ⟨r1, r2, h1, h2, rfl⟩ := eqC_app hr
            rw [List.drop_drop, List.drop_drop] at h2
            simp only [List.length_append] at hol hom
            have hrec := ihg _ _ hks r2 h2 (by omega) (by omega)
            have hr1 := ih f.type a ha D (by omega) _ _ _ _ (hA.cut f.offset a.length (by omega)) (hB.cut f.offset a.length (by omega)) r1 h1
            have hsz' : P.cellsOf f.type = a.length := by simpa using hsz
            have hpart : ∃ x y, (part f.type A f.offset).run P w = .ok x w ∧ (part f.type B f.offset).run P w = .ok y w ∧ (Op.equalIn D f.type x y).run P w = .ok r1 w := by
              have hla : 0 < a.length ∨ a = [] := by cases a <;> simp
              unfold EqRuns at hr1
              cases huf : P.underlying f.type with
              | none => cases d <;> simp [eqL, huf] at ha
              | some df =>
                obtain ⟨i, hi⟩ : ∃ i, P.info? f.type = some i := by
                  cases hi : P.info? f.type with
                  | none => simp [Program.underlying, hi] at huf
                  | some i => exact ⟨i, rfl⟩
                have hcs : i.size = a.length := by rw [← hsz']; simp [Program.cellsOf, hi]
                rw [huf] at hr1
                cases hrow : (kindOf (some df)).row with
                | true =>
                  have : ∃ gs, df = .struct gs := by
                    cases df <;> simp [kindOf, TK.row] at hrow
                    · cases d <;> simp [eqL, huf] at ha
                    · exact ⟨_, rfl⟩
                  obtain ⟨gs', rfl⟩ := this
                  refine ⟨_, _, part_row huf hi, part_row huf hi, ?_⟩
                  rw [hcs]; exact hr1
                | false =>
                  have hns : ∀ gs, df ≠ .struct gs := by rintro gs rfl; simp [kindOf, TK.row] at hrow
                  have hr1' : ∃ x y, A.extract f.offset (f.offset + a.length) = #[x] ∧ B.extract f.offset (f.offset + a.length) = #[y] ∧ (Op.equalIn D f.type x y).run P w = .ok r1 w := by
                    cases df <;> first | exact hr1 | exact absurd rfl (hns _)
                  obtain ⟨x, y, hx, hy, he⟩ := hr1'
                  have get1 : ∀ (C : Array Value) z, C.extract f.offset (f.offset + a.length) = #[z] → C[f.offset]? = some z := by
                    intro C z hz
                    have h0 : (C.extract f.offset (f.offset + a.length))[0]? = some z := by rw [hz]; rfl
                    rw [Array.getElem?_extract] at h0
                    split at h0
                    · simpa using h0
                    · cases h0
                  have hag : (isAgg f.type).run P w = .ok false w := by rw [run_isAgg huf, hrow]
                  exact ⟨x, y, by simp [part, hag, get1 A x hx], by simp [part, hag, get1 B y hy], he⟩
            obtain ⟨x, y, hx, hy, he⟩ := hpart
            rw [Op.eqFields]
            simp only [if_pos hn, Sem.run_bind, hx, hy, he, Result.andThen_ok]
            cases r1
            · simp
            · simpa using hrec
          · cases h
      exact key fs.toList 0 ks ht r (by simpa using hr) (by omega) (by omega)
    · cases ht
end
end Go.AM
end
section
namespace Go.AM
open Go.RowKit
set_option linter.unusedVariables false
set_option linter.unusedSimpArgs false
section
variable {P : Program} {T : Tab} {μ : Pm} {F : Mem} {n0 nx : Nat} {w0 w : World} {O : Objs} {e : Operand → AV} {ρ : Operand → Value}

theorem guard_ok {op : BinOp} {t : TypeId} {x y : Operand} {a b : Value} (h : (∃ k n, a = .int k n) ∨ (∃ c, a = .bool c) ∨ (∃ s, a = .string s) ∨ (∃ q, a = .pointer q)) : (eqGuard op t x y a b).run P w = .ok () w := by
  rcases h with ⟨k, n, rfl⟩ | ⟨c, rfl⟩ | ⟨s, rfl⟩ | ⟨q, rfl⟩ <;> cases op <;> simp [eqGuard]
theorem eqOp_run {r : Bool} {op : BinOp} {t : TypeId} {a b : Value} {c : Prop} {v : AV} (h : eqOp r op = some (c, v)) (he : (Op.equal t a b).run P w = .ok r w)
    (hq : ∀ o, o = BinOp.eql ∨ o = BinOp.neq → binOp o t a b = (if o = .eql then (do pure (.bool (← Op.equal t a b))) else (do pure (.bool (!(← Op.equal t a b)))))) : Yl P μ F w (binOp op t a b) v := by
  cases op <;> simp only [eqOp, Option.some.injEq, Prod.mk.injEq, reduceCtorEq] at h <;> obtain ⟨_, rfl⟩ := h
  · exact ⟨.bool r, by rw [hq _ (.inl rfl)]; simp [he], .bool _⟩
  · exact ⟨.bool !r, by rw [hq _ (.inr rfl)]; simp [he], .bool _⟩
theorem kind_pointer {d : Option TypeDesc} (h : kindOf d = .pointer) : ∃ q, d = some (.pointer q) := by
  unfold kindOf at h; split at h <;> simp at h; exact ⟨_, rfl⟩
theorem isP {k : TK} (h : k.isP = true) : k = .pointer := by cases k <;> simp [TK.isP] at h ⊢
theorem isB {k : TK} (h : k.isB = true) : k = .bool := by cases k <;> simp [TK.isB] at h ⊢
theorem isSt {k : TK} (h : k.isSt = true) : ∃ fs, k = .struct fs := by cases k <;> simp [TK.isSt] at h ⊢
theorem abin_yl (hT : Tab.Ok P T) {op : BinOp} {t : Nat} {ox oy : Operand} {x y : AV} {cx cy : Value} (hx : RelV F μ x cx) (hy : RelV F μ y cy) {c : Prop} {v : AV} (h : abin T op t x y = some (c, v)) (hc : c) :
    Yl P μ F w (do eqGuard op t ox oy cx cy; binOp op t cx cy) v := by
  suffices hs : (eqGuard op t ox oy cx cy).run P w = .ok () w ∧ Yl P μ F w (binOp op t cx cy) v by
    obtain ⟨h1, cv, h2, h3⟩ := hs
    exact ⟨cv, by simp [h1, h2], h3⟩
  have ptrs : ∀ (r : Bool) (a b : Option Addr), (T.at t).kind = .pointer → (a.isNone ∨ b.isNone) → r = (a.isNone && b.isNone) → eqOp r op = some (c, v) → (eqGuard op t ox oy (.pointer a) (.pointer b)).run P w = .ok () w ∧ Yl P μ F w (binOp op t (.pointer a) (.pointer b)) v := by
    intro r a b hk hab hr h
    refine ⟨guard_ok (.inr (.inr (.inr ⟨_, rfl⟩))), ?_⟩
    obtain ⟨i, hi, h1, _⟩ := hT.info (Tab.ne_none hk (by simp))
    rw [h1] at hk
    obtain ⟨q, hu⟩ := kind_pointer hk
    refine eqOp_run h ?_ ?_
    · subst hr
      have he : ∀ a b, Op.equal t a b = Op.equalIn (9999 + 1) t a b := fun _ _ => rfl
      rw [he]
      generalize 9999 = q9
      cases a <;> cases b <;> simp at hab <;> simp [Op.equalIn, run_und hu]
    · rintro o (rfl | rfl) <;> simp [binOp]
  unfold abin at h
  split at h
  · rename_i k a k' b
    cases hx; cases hy
    refine ⟨guard_ok (.inl ⟨_, _, rfl⟩), ?_⟩
    cases hs : isSh op <;> rw [hs] at h <;> simp only [cond_true, cond_false] at h
    · cases hk : kindEq k k' <;> rw [hk] at h <;> simp only [cond_true, cond_false, reduceCtorEq] at h
      obtain rfl := kindEq_eq hk
      exact intOp_run h hc t
    · exact shOp_run h hc t
  · rename_i a b
    cases hx; cases hy
    refine ⟨guard_ok (.inr (.inl ⟨_, rfl⟩)), ?_⟩
    cases hkb : (T.at t).kind.isB <;> rw [hkb] at h <;> simp only [cond_true, cond_false, reduceCtorEq] at h
    have hk := isB hkb
    obtain ⟨i, hi, h1, _⟩ := hT.info (Tab.ne_none hk (by simp))
    rw [h1] at hk
    have hu := kind_bool hk
    exact eqOp_run h (run_equal_bool w t a b hu) (by rintro o (rfl | rfl) <;> simp [binOp])
  · rename_i a b
    cases hx; cases hy
    refine ⟨guard_ok (.inr (.inr (.inl ⟨_, rfl⟩))), ?_⟩
    cases op <;> simp only [eqOp, Option.some.injEq, Prod.mk.injEq, reduceCtorEq] at h <;> obtain ⟨_, rfl⟩ := h <;>
      exact ⟨_, by simp [binOp, Op.stringOp], .bool _⟩
  · rename_i l m
    cases hks : (T.at t).kind.isSt <;> rw [hks] at h <;> simp only [cond_true, cond_false, reduceCtorEq] at h
    obtain ⟨fs, hk⟩ := isSt hks
    obtain ⟨i, hi, h1, _, _, _, heq⟩ := hT.info (Tab.ne_none hk (by simp))
    rw [h1] at hk
    obtain ⟨gs, hu, _⟩ := kind_struct hk
    split at h
    · rename_i ks hks
      rw [hks] at heq
      cases hg : P.eqGuardType P.depth t <;> rw [hg] at heq <;> simp only [cond_true, cond_false, reduceCtorEq] at heq
      cases hr : eqC ks l m with
      | none => rw [hr] at h; cases h
      | some r =>
        rw [hr, Option.bind_some] at h
        cases hx with
        | @agg _ _ A hA hl =>
          cases hy with
          | @agg _ _ B hB hm =>
            refine ⟨run_eqGuard_agg w op t ox oy A B hg, ?_⟩
            have := eqL_run (w := w) (P := P) 9 t ks heq.symm Op.maxDepth (by decide) l m A B ⟨hA, hl⟩ ⟨hB, hm⟩ r hr
            unfold EqRuns at this
            rw [hu] at this
            exact eqOp_run h this (by rintro o (rfl | rfl) <;> simp [binOp])
    · cases h
  · cases hx; cases hy
    cases hkb : (T.at t).kind.isP <;> rw [hkb] at h <;> simp only [cond_true, cond_false, reduceCtorEq] at h
    exact ptrs true _ _ (isP hkb) (by simp) (by simp) h
  · cases hx; cases hy
    cases hkb : (T.at t).kind.isP <;> rw [hkb] at h <;> simp only [cond_true, cond_false, reduceCtorEq] at h
    exact ptrs false _ _ (isP hkb) (by simp) (by simp) h
  · cases hx; cases hy
    cases hkb : (T.at t).kind.isP <;> rw [hkb] at h <;> simp only [cond_true, cond_false, reduceCtorEq] at h
    exact ptrs false _ _ (isP hkb) (by simp) (by simp) h
  · cases hx; cases hy
    cases hkb : (T.at t).kind.isP <;> rw [hkb] at h <;> simp only [cond_true, cond_false, reduceCtorEq] at h
    exact ptrs false _ _ (isP hkb) (by simp) (by simp) h
  · cases hx; cases hy
    cases hkb : (T.at t).kind.isP <;> rw [hkb] at h <;> simp only [cond_true, cond_false, reduceCtorEq] at h
    exact ptrs false _ _ (isP hkb) (by simp) (by simp) h
  · cases h

theorem maxs_run {k : IntKind} : ∀ {l : List AV} {cs : List Value} {x : Int} {v : AV}, maxs k x l = some v → cs.length = l.length → (∀ (j : Nat) u, l[j]? = some u → ∃ cu, cs[j]? = some cu ∧ RelV F μ u cu) → Yl P μ F w (cs.foldlM Builtin.max2 (.int k x)) v := by
  intro l
  induction l with
  | nil => intro cs x v h hl hr; cases cs with
    | nil => simp only [maxs, Option.some.injEq] at h; subst h; exact ⟨_, by simp, .int _ _⟩
    | cons c cs => simp at hl
  | cons u l ih =>
    intro cs x v h hl hr
    cases cs with
    | nil => simp at hl
    | cons c cs =>
      cases u <;> simp only [maxs, reduceCtorEq] at h
      obtain ⟨cu, h1, h2⟩ := hr 0 _ rfl
      simp at h1; subst h1
      cases h2
      have := ih h (by simpa using hl) (fun j u hj => hr (j + 1) u (by simpa using hj))
      simpa [Yl, Builtin.max2] using this
theorem mins_run {k : IntKind} : ∀ {l : List AV} {cs : List Value} {x : Int} {v : AV}, mins k x l = some v → cs.length = l.length → (∀ (j : Nat) u, l[j]? = some u → ∃ cu, cs[j]? = some cu ∧ RelV F μ u cu) → Yl P μ F w (cs.foldlM Builtin.min2 (.int k x)) v := by
  intro l
  induction l with
  | nil => intro cs x v h hl hr; cases cs with
    | nil => simp only [mins, Option.some.injEq] at h; subst h; exact ⟨_, by simp, .int _ _⟩
    | cons c cs => simp at hl
  | cons u l ih =>
    intro cs x v h hl hr
    cases cs with
    | nil => simp at hl
    | cons c cs =>
      cases u <;> simp only [mins, reduceCtorEq] at h
      obtain ⟨cu, h1, h2⟩ := hr 0 _ rfl
      simp at h1; subst h1
      cases h2
      have := ih h (by simpa using hl) (fun j u hj => hr (j + 1) u (by simpa using hj))
      simpa [Yl, Builtin.min2] using this
end
end Go.AM
end
section
namespace Go.AM
open Go.RowKit
set_option linter.unusedVariables false
set_option linter.unusedSimpArgs false
/-- an operation, whatever stands about it -/
abbrev opr (dst : Option Tmp) (op : Op) (ty : TypeId) (pos : String) (after : Array Edge) (g : Option (Nat × Bool)) : Oper := ⟨dst, op, ty, pos, after, g⟩
section
variable {P : Program} {T : Tab} {μ : Pm} {F : Mem} {n0 nx : Nat} {w0 w : World} {O : Objs} {e : Operand → AV} {ρ : Operand → Value}
theorem relMap (hE : ∀ x, RelV F μ (e x) (ρ x)) (xs : Array Operand) : (xs.map ρ).size = (xs.toList.map e).length ∧ ∀ (j : Nat) v, (xs.toList.map e)[j]? = some v → RelV F μ v ((xs.map ρ).getD j undef) := by
  refine ⟨by simp, fun j v hj => ?_⟩
  rw [List.getElem?_map] at hj
  cases hx : xs.toList[j]? with
  | none => simp [hx] at hj
  | some x =>
    simp [hx] at hj; subst hj
    have : xs[j]? = some x := by simpa using hx
    rw [Array.getD_eq_getD_getElem?]
    simp [this]
    exact hE x
theorem plain_or {v : AV} (h : v.plain = true) : (∃ l, v = .agg l) ∨ v.one = true := by
  cases v <;> first | exact .inl ⟨_, rfl⟩ | exact .inr h
theorem set_run (off : Nat) : ∀ (vs : List Value) (k : Nat) (A : Array Value), off + k + vs.length ≤ A.size → ((vs.zipIdx k).foldl (fun cs p => cs.setIfInBounds (off + p.2) p.1) A).size = A.size ∧
    ∀ j, ((vs.zipIdx k).foldl (fun cs p => cs.setIfInBounds (off + p.2) p.1) A).getD j undef = if off + k ≤ j ∧ j < off + k + vs.length then vs.getD (j - (off + k)) undef else A.getD j undef := by
  intro vs
  induction vs with
  | nil => intro k A _; refine ⟨rfl, fun j => ?_⟩; rw [if_neg (by simp)]; rfl
  | cons v vs ih =>
    intro k A hA
    simp only [List.length_cons] at hA
    simp only [List.zipIdx_cons, List.foldl_cons]
    obtain ⟨h1, h2⟩ := ih (k + 1) (A.setIfInBounds (off + k) v) (by simp; omega)
    refine ⟨by rw [h1]; simp, fun j => ?_⟩
    rw [h2 j]
    by_cases hj : j = off + k
    · subst hj
      rw [if_neg (by omega), if_pos (by simp)]
      have : off + k < A.size := by omega
      simp [Array.getD, this]
    · by_cases hj2 : off + (k + 1) ≤ j ∧ j < off + (k + 1) + vs.length
      · rw [if_pos hj2, if_pos (by simp; omega)]
        have : j - (off + k) = (j - (off + (k + 1))) + 1 := by omega
        rw [this]; simp
      · rw [if_neg hj2, if_neg (by simp; omega)]
        rw [Array.getD_eq_getD_getElem?, Array.getD_eq_getD_getElem?, Array.getElem?_setIfInBounds_ne (by omega)]
theorem RelA.splice {cells vs : List AV} {A V : Array Value} {off : Nat} (hA : RelA μ F cells A) (hV : RelA μ F vs V) (ho : off + vs.length ≤ cells.length) :
    RelA μ F (cells.take off ++ vs ++ cells.drop (off + vs.length)) (V.zipIdx.foldl (fun cs p => cs.setIfInBounds (off + p.2) p.1) A) := by
  have he : V.zipIdx.foldl (fun cs p => cs.setIfInBounds (off + p.2) p.1) A = (V.toList.zipIdx 0).foldl (fun cs p => cs.setIfInBounds (off + p.2) p.1) A := by
    rw [← Array.foldl_toList, Array.toList_zipIdx]
  rw [he]
  have hl : V.toList.length = vs.length := by simpa using hV.1
  obtain ⟨h1, h2⟩ := set_run off V.toList 0 A (by rw [hl, hA.1]; simpa using ho)
  refine ⟨by rw [h1, hA.1]; simp; omega, fun j v hj => ?_⟩
  rw [h2 j]
  simp only [Nat.add_zero, hl]
  by_cases hj1 : j < off
  · rw [if_neg (by omega)]
    rw [List.append_assoc, List.getElem?_append_left (by simp; omega), List.getElem?_take, if_pos hj1] at hj
    exact hA.2 j v hj
  · by_cases hj2 : j < off + vs.length
    · rw [if_pos (by omega)]
      rw [List.append_assoc, List.getElem?_append_right (by simp; omega), List.getElem?_append_left (by simp; omega)] at hj
      have hlen : (cells.take off).length = off := by simp; omega
      rw [hlen] at hj
      have := hV.2 _ v hj
      have he2 : V.toList.getD (j - off) undef = V.getD (j - off) undef := by simp [Array.getD_eq_getD_getElem?, List.getD_eq_getElem?_getD]
      rw [he2]; exact this
    · rw [if_neg (by omega)]
      have hlen : (cells.take off ++ vs).length = off + vs.length := by simp; omega
      rw [List.getElem?_append_right (by omega), hlen, List.getElem?_drop] at hj
      have : off + vs.length + (j - (off + vs.length)) = j := by omega
      rw [this] at hj
      exact hA.2 j v hj
theorem afill_run {pl : Nat → Option (Nat × Nat)} : ∀ (ps : List (Nat × AV)) (qs : List (Nat × Value)) (cells l : List AV) (A : Array Value), RelA μ F cells A → afill pl cells ps = some l →
    ps.length = qs.length → (∀ (j : Nat) p q, ps[j]? = some p → qs[j]? = some q → p.1 = q.1 ∧ RelV F μ p.2 q.2) → ∃ B, Instr.fill pl A qs = some B ∧ RelA μ F l B := by
  intro ps
  induction ps with
  | nil =>
    intro qs cells l A hA h hl hr
    cases qs with
    | nil => simp only [afill, Option.some.injEq] at h; subst h; exact ⟨A, rfl, hA⟩
    | cons q qs => simp at hl
  | cons p ps ih =>
    intro qs cells l A hA h hl hr
    cases qs with
    | nil => simp at hl
    | cons q qs =>
      obtain ⟨i, v⟩ := p
      obtain ⟨i', cv⟩ := q
      obtain ⟨h1, h2⟩ := hr 0 _ _ rfl rfl
      dsimp only at h1 h2
      subst h1
      simp only [afill] at h
      split at h
      · cases h
      · rename_i off size hp
        cases hb : (Nat.beq v.cells.length size && Nat.ble (off + size) cells.length && v.plain) <;> rw [hb] at h <;> simp only [cond_true, cond_false, reduceCtorEq] at h
        simp only [Bool.and_eq_true] at hb
        obtain ⟨⟨hb1, hb2⟩, hb3⟩ := hb
        have hb1 := Nat.eq_of_beq_eq_true hb1
        have hb2 := Nat.le_of_ble_eq_true hb2
        have hpv := plain_or hb3
        obtain ⟨hs, hcs⟩ := h2.cells hpv
        have hsz : cv.cells.size = size := by rw [hs, hb1]
        simp only [Instr.fill, hp]
        rw [if_neg (by simp only [hsz, ne_eq, not_true, decide_false, Bool.false_or, decide_eq_true_eq]; rw [hA.1]; simp; omega)]
        refine ih qs _ l _ ?_ h (by simpa using hl) (fun j p q hp hq => hr (j + 1) p q (by simpa using hp) (by simpa using hq))
        rw [← hb1]
        exact hA.splice (off := off) ⟨hs, hcs⟩ (by rw [hb1]; exact hb2)
theorem Yl.next {s : Sem Value} {v : AV} (h : Yl P μ F w s v) : ∃ cv, (do pure (Next.value (← s)) : Sem Next).run P w = .ok (.value cv) w ∧ RelV F μ v cv := by
  obtain ⟨cv, h1, h2⟩ := h
  exact ⟨cv, by simp [h1], h2⟩
theorem mapM_places {P : Program} {w : World} {T : Tab} (hT : Tab.Ok P T) : ∀ (fs : List Field), (∀ f ∈ fs, (T.at f.type).size ≠ 0) → (fs.mapM fun f => (do pure (f.offset, ← sizeOf f.type) : Sem (Nat × Nat))).run P w = .ok (fs.map fun f => (f.offset, (T.at f.type).size)) w := by
  intro fs
  induction fs with
  | nil => intro _; rfl
  | cons f fs ih =>
    intro h
    obtain ⟨i, hi, _, hs, _⟩ := hT.info (Tab.ne_none' (h f (by simp)))
    have := ih (fun g hg => h g (by simp [hg]))
    rw [List.mapM_cons]
    simp only [Sem.run_bind, run_size hi, Result.andThen_ok, Sem.run_pure, this, List.map_cons, hs]
theorem zero_rel : ∀ (z : Value), RelA μ F (zeroOf z) z.cells := by
  intro z
  refine ⟨by simp [zeroOf], fun j v hj => ?_⟩
  simp only [zeroOf, List.getElem?_map] at hj
  cases hx : z.cells.toList[j]? with
  | none => simp [hx] at hj
  | some u =>
    simp [hx] at hj; subst hj
    have : z.cells[j]? = some u := by simpa using hx
    rw [Array.getD_eq_getD_getElem?, this]
    show RelV F μ (ofVal u) u
    unfold ofVal
    split <;> constructor
theorem build_yl (hT : Tab.Ok P T) (hE : ∀ x, RelV F μ (e x) (ρ x)) {t : Nat} {ps : Array (Nat × Operand)} {c : Prop} {v : AV}
    (h : aBuild T t (ps.toList.map fun q => (q.1, e q.2)) = some (c, v)) (hc : c) : Yl P μ F w (Instr.build t (ps.map fun (i, x) => (i, ρ x))) v := by
  unfold aBuild at h
  split at h
  · rename_i fs hk
    obtain ⟨i, hi, h1, _, _, ⟨z, hzv, hz⟩, _⟩ := hT.info (Tab.ne_none hk (by simp))
    rw [h1] at hk
    obtain ⟨gs, hu, hm⟩ := kind_struct hk
    rw [Option.map_eq_some_iff] at h
    obtain ⟨l, hf, hq⟩ := h
    simp only [Prod.mk.injEq] at hq
    obtain ⟨rfl, rfl⟩ := hq
    rw [hz] at hf
    · skip
      have hsizes : ∀ f ∈ gs.toList, (T.at f.type).size ≠ 0 := by
        intro f hf' h0
        have := List.all_eq_true.1 hc (f.offset, f.type) (by rw [← hm]; exact List.mem_map.2 ⟨f, hf', rfl⟩)
        simp [h0] at this
      have hpl : (fun (i : Nat) => (fs[i]?).map fun q => (q.1, (T.at q.2).size)) = fun i => ((gs.toList.map fun f => (f.offset, (T.at f.type).size)).toArray)[i]? := by
        funext i
        subst hm
        simp [List.getElem?_map, Option.map_map]
        rfl
      rw [hpl] at hf
      obtain ⟨B, hB, hr⟩ := afill_run (ps.toList.map fun q => (q.1, e q.2)) (ps.toList.map fun q => (q.1, ρ q.2)) _ _ z.cells (zero_rel z) hf (by simp) (fun j p q hp hq => by
        rw [List.getElem?_map] at hp hq
        cases hx : ps.toList[j]? with
        | none => simp [hx] at hp
        | some x => simp [hx] at hp hq; subst hp; subst hq; exact ⟨rfl, hE _⟩)
      refine ⟨.agg B, ?_, .agg hr.1 hr.2⟩
      have hmap := mapM_places (w := w) hT gs.toList hsizes
      have hmap' : (gs.mapM fun f => (do pure (f.offset, ← sizeOf f.type) : Sem (Nat × Nat))).run P w = .ok ((gs.toList.map fun f => (f.offset, (T.at f.type).size)).toArray) w := by
        rw [Array.mapM_eq_mapM_toList, Sem.run_map, hmap]
        rfl
      have hps : (ps.map fun (i, x) => (i, ρ x)).toList = ps.toList.map fun q => (q.1, ρ q.2) := by simp
      simp only [Instr.build, Sem.run_bind, zeroValue, run_info hi, hzv, Result.andThen_ok, Sem.run_pure, run_und hu, hmap', hps]
      rw [hB]
      rfl
  · rename_i n el hk
    obtain ⟨i, hi, h1, _, _, ⟨z, hzv, hz⟩, _⟩ := hT.info (Tab.ne_none hk (by simp))
    rw [h1] at hk
    have hu := kind_array hk
    rw [Option.map_eq_some_iff] at h
    obtain ⟨l, hf, hq⟩ := h
    simp only [Prod.mk.injEq] at hq
    obtain ⟨rfl, rfl⟩ := hq
    rw [hz] at hf
    have hne : (T.at el).size ≠ 0 := by intro h0; rw [h0] at hc; simp at hc
    obtain ⟨ei, hei, _, hsz, _⟩ := hT.info (Tab.ne_none' hne)
    obtain ⟨B, hB, hr⟩ := afill_run (ps.toList.map fun q => (q.1, e q.2)) (ps.toList.map fun q => (q.1, ρ q.2)) _ _ z.cells (zero_rel z) hf (by simp) (fun j p q hp hq => by
      rw [List.getElem?_map] at hp hq
      cases hx : ps.toList[j]? with
      | none => simp [hx] at hp
      | some x => simp [hx] at hp hq; subst hp; subst hq; exact ⟨rfl, hE _⟩)
    refine ⟨.agg B, ?_, .agg hr.1 hr.2⟩
    have hps : (ps.map fun (i, x) => (i, ρ x)).toList = ps.toList.map fun q => (q.1, ρ q.2) := by simp
    rw [hsz] at hB
    simp only [Instr.build, Sem.run_bind, zeroValue, run_info hi, hzv, Result.andThen_ok, Sem.run_pure, run_und hu, run_size hei, hps]
    rw [hB]
    rfl
  · cases h
theorem index_yl (hT : Tab.Ok P T) {t : Nat} {x ix : AV} {cx ci : Value} (hx : RelV F μ x cx) (hix : RelV F μ ix ci) {c : Prop} {v : AV}
    (h : aIndex T t x ix = some (c, v)) (hc : c) : Yl P μ F w (Instr.index t cx ci) v := by
  unfold aIndex at h
  cases ix with
  | int k n =>
    cases hix with
    | int =>
    dsimp only at h
    cases hk : (T.at t).kind with
    | array m el =>
      rw [hk] at h
      obtain ⟨ti, hti, h1, _⟩ := hT.info (Tab.ne_none hk (by simp))
      rw [h1] at hk
      have hu := kind_array hk
      cases x with
      | agg l =>
        dsimp only at h
        simp only [Option.some.injEq, Prod.mk.injEq] at h
        obtain ⟨rfl, rfl⟩ := h
        obtain ⟨⟨hn0, hn1⟩, hs⟩ := hc
        simp only [Bool.and_eq_true, Bool.not_eq_true'] at hs
        obtain ⟨⟨⟨hs1, hs2⟩, hs3⟩, hs4⟩ := hs
        have hs1 := Nat.eq_of_beq_eq_true hs1
        have hs4 := Nat.eq_of_beq_eq_true hs4
        obtain ⟨ei, d, hei, hd, hkd, hsz, _⟩ := Tab.known hT hs3
        cases hx with
        | @agg _ _ A hA hl =>
          have hlt : n.toNat < l.length := by omega
          have hlt' : n.toNat < A.size := by omega
          have hag : (isAgg el).run P w = .ok false w := by rw [run_isAgg hd, ← hkd, hs2]
          refine ⟨A[n.toNat], ?_, ?_⟩
          · have : ei.size = 1 := by omega
            simp [Instr.index, asIntOf, run_und hu, hn0, hn1, run_size hei, this, part, hag, hlt']
          · have := hl n.toNat _ (List.getElem?_eq_getElem hlt)
            simpa [Array.getD, hlt', List.getD_eq_getElem?_getD, hlt] using this
      | _ => cases h
    | _ => rw [hk] at h; cases h
  | _ => cases h
theorem conv_yl (hT : Tab.Ok P T) {s d : Nat} {x : AV} {cx : Value} (hx : RelV F μ x cx) {c : Prop} {v : AV} (h : aConv T s d x = some (c, v)) : Yl P μ F w (convert s d cx) v := by
  unfold aConv at h
  split at h
  · rename_i ks hks
    obtain ⟨i1, _, h1, _⟩ := hT.info (Tab.ne_none hks (by simp))
    rw [h1] at hks
    split at h
    · rename_i kd hkd
      obtain ⟨i2, _, h2, _⟩ := hT.info (Tab.ne_none hkd (by simp))
      rw [h2] at hkd
      cases x <;> simp only [reduceCtorEq] at h
      simp only [Option.some.injEq, Prod.mk.injEq] at h
      obtain ⟨_, rfl⟩ := h
      cases hx
      exact ⟨_, by simp [convert, run_und (kind_int hks), run_und (kind_int hkd), Conv.intToInt] <;> rfl, .int _ _⟩
    · cases h
  · cases h
theorem aun_yl {op : UnOp} {x : AV} {cx : Value} (hx : RelV F μ x cx) {c : Prop} {v : AV} (h : aun op x = some (c, v)) : Yl P μ F w (Op.unary op cx) v := by
  unfold aun at h
  split at h
  · simp only [Option.some.injEq, Prod.mk.injEq] at h
    obtain ⟨rfl, rfl⟩ := h
    cases hx
    exact ⟨_, by simp [Op.unary, Op.intArith], .int _ _⟩
  · simp only [Option.some.injEq, Prod.mk.injEq] at h
    obtain ⟨rfl, rfl⟩ := h
    cases hx
    exact ⟨_, by simp [Op.unary], .bool _⟩
  · cases h
theorem len_yl (hT : Tab.Ok P T) {t ty : Nat} {ts : List Nat} {x : AV} {cx : Value} (hx : RelV F μ x cx) {c : Prop} {v : AV} (h : aLen (T.at t).kind x = some (c, v)) : Yl P μ F w (Builtin.len_ (t :: ts).toArray ty #[cx]) v := by
  unfold aLen at h
  cases hk : (T.at t).kind with
  | slice el =>
    obtain ⟨i1, _, h1, _⟩ := hT.info (Tab.ne_none hk (by simp))
    rw [hk] at h
    rw [h1] at hk
    have fin : ∀ {v : AV} {a : Option Addr} {n cap : Nat}, v = .int .i64 n → Yl P μ F w (Builtin.len_ (t :: ts).toArray ty #[.slice a n cap]) v := by
      rintro v a n cap rfl
      exact ⟨_, by simp [Builtin.len_, run_und (kind_slice hk)] <;> rfl, .int _ _⟩
    cases x with
    | row id i n => simp only [Option.some.injEq, Prod.mk.injEq] at h; obtain ⟨_, rfl⟩ := h; cases hx; exact fin rfl
    | ro l => simp only [Option.some.injEq, Prod.mk.injEq] at h; obtain ⟨_, rfl⟩ := h; cases hx <;> exact fin rfl
    | nils => simp only [Option.some.injEq, Prod.mk.injEq] at h; obtain ⟨_, rfl⟩ := h; cases hx; exact fin rfl
    | app tok l => simp only [Option.some.injEq, Prod.mk.injEq] at h; obtain ⟨_, rfl⟩ := h; cases hx with | app hro _ _ _ => cases hro <;> exact fin rfl
    | _ => simp only [reduceCtorEq] at h
  | str =>
    obtain ⟨i1, _, h1, _⟩ := hT.info (Tab.ne_none hk (by simp))
    rw [hk] at h
    rw [h1] at hk
    cases x <;> simp only [reduceCtorEq] at h
    simp only [Option.some.injEq, Prod.mk.injEq] at h
    obtain ⟨_, rfl⟩ := h
    cases hx
    exact ⟨_, by simp [Builtin.len_, run_und (kind_str hk)] <;> rfl, .int _ _⟩
  | array n el =>
    obtain ⟨i1, _, h1, _⟩ := hT.info (Tab.ne_none hk (by simp))
    rw [hk] at h
    rw [h1] at hk
    simp only [Option.some.injEq, Prod.mk.injEq] at h
    obtain ⟨_, rfl⟩ := h
    exact ⟨_, by simp [Builtin.len_, run_und (kind_array hk)] <;> rfl, .int _ _⟩
  | _ => rw [hk] at h; cases h
theorem nil_yl (hO : RelO n0 w0 μ F O nx w) {x : AV} {cx : Value} (hx : RelV F μ x cx) {c : Prop} {v : AV} (h : aNil x = some (c, v)) : RelV F μ v cx ∧ ((∃ a, cx = .pointer (some a)) ∨ ∃ f A C, cx = .func (.func f) A C) := by
  unfold aNil at h
  cases x <;> simp only [reduceCtorEq] at h <;> simp only [Option.some.injEq, Prod.mk.injEq] at h <;> obtain ⟨_, rfl⟩ := h
  · exact ⟨hx, by cases hx; exact .inl ⟨_, rfl⟩⟩
  · exact ⟨hx, by cases hx; exact .inl ⟨_, rfl⟩⟩
  · exact ⟨hx, by cases hx; exact .inr ⟨_, _, _, rfl⟩⟩
theorem list_rel (hE : ∀ x, RelV F μ (e x) (ρ x)) (xs : List Operand) : (xs.map ρ).length = (xs.map e).length ∧ ∀ (j : Nat) u, (xs.map e)[j]? = some u → ∃ cu, (xs.map ρ)[j]? = some cu ∧ RelV F μ u cu := by
  refine ⟨by simp, fun j u hj => ?_⟩
  rw [List.getElem?_map] at hj ⊢
  cases hx : xs[j]? with
  | none => simp [hx] at hj
  | some x => simp [hx] at hj; subst hj; exact ⟨_, rfl, hE x⟩
theorem aval_sound (hT : Tab.Ok P T) (hE : ∀ x, RelV F μ (e x) (ρ x)) (hO : RelO n0 w0 μ F O nx w) (o : Oper) {c : Prop} {v : AV} (h : aval T O e o.op = some (c, v)) (hc : c) :
    ∃ cv, (execOp ρ o).run P w = .ok (.value cv) w ∧ RelV F μ v cv := by
  obtain ⟨dst, op, ty, pos, after, guard⟩ := o
  cases op <;> simp only [aval, reduceCtorEq] at h
  case move x => simp only [Option.some.injEq, Prod.mk.injEq] at h; obtain ⟨_, rfl⟩ := h; exact ⟨ρ x, rfl, hE x⟩
  case assign x => simp only [Option.some.injEq, Prod.mk.injEq] at h; obtain ⟨_, rfl⟩ := h; exact ⟨ρ x, rfl, hE x⟩
  case load t x => exact (load_yl hT hO (hE x) h hc).next
  case fieldAddr s x f => exact (fieldAddr_yl hT hO (hE x) h).next
  case field t x f => exact (field_yl hT (hE x) h hc).next
  case indexAddr t x ix => exact (indexAddr_yl hT hO (hE x) (hE ix) h hc).next
  case index t x ix => exact (index_yl hT (hE x) (hE ix) h hc).next
  case binOp op t x y yt =>
    have := (abin_yl (w := w) (ox := x) (oy := y) hT (hE x) (hE y) h hc).next
    exact this
  case unOp op t x => exact (aun_yl (hE x) h).next
  case convert s d x => exact (conv_yl hT (hE x) h).next
  case build t ps => exact (build_yl hT hE h hc).next
  case extract x i =>
    have hx := hE x
    split at h
    · rename_i l hl
      rw [hl] at hx
      rw [Option.map_eq_some_iff] at h
      obtain ⟨u, hu, hq⟩ := h
      simp only [Prod.mk.injEq] at hq
      obtain ⟨_, rfl⟩ := hq
      generalize hcx : ρ x = cx at hx
      cases hx with
      | @tup _ _ A hA hr =>
        have hlt : i < A.size := by rw [hA]; exact (List.getElem?_eq_some_iff.1 hu).1
        refine ⟨A[i], by simp [execOp, hcx, Instr.extract, hlt], ?_⟩
        have := hr i u hu
        simpa [Array.getD, hlt] using this
    · cases h
  case makeFunc fn fs cs =>
    cases fn <;> simp only [reduceCtorEq] at h
    simp only [Option.some.injEq, Prod.mk.injEq] at h
    obtain ⟨_, rfl⟩ := h
    exact ⟨_, rfl, .fn (relMap hE fs).1 (relMap hE cs).1 (relMap hE fs).2 (relMap hE cs).2⟩
  case nilCheck x =>
    obtain ⟨h1, h2⟩ := nil_yl hO (hE x) h
    rcases h2 with ⟨a, ha⟩ | ⟨f, A, C, ha⟩ <;> exact ⟨_, by simp only [execOp, ha]; rfl, by rw [← ha]; exact h1⟩
  case call cl =>
    obtain ⟨callee, args, ats⟩ := cl
    dsimp only at h
    split at h
    · split at h
      · rename_i x t ts hxs hts
        try dsimp only at hxs hts
        obtain rfl : args = #[x] := by rw [← Array.toList_inj]; exact hxs
        obtain rfl : ats = (t :: ts).toArray := by rw [← Array.toList_inj]; exact hts
        have := (len_yl (w := w) (ty := ty) (ts := ts) hT (hE x) h).next
        simpa [execOp, resolve, invoke, builtin] using this
      · cases h
    · split at h
      · rename_i k x l hl
        rw [Option.map_eq_some_iff] at h
        obtain ⟨u, hu, hq⟩ := h
        simp only [Prod.mk.injEq] at hq
        obtain ⟨_, rfl⟩ := hq
        obtain ⟨h1, h2⟩ := list_rel hE args.toList
        cases hal : args.toList with
        | nil => rw [hal] at hl; cases hl
        | cons y ys =>
          rw [hal] at hl
          simp only [List.map_cons, List.cons.injEq] at hl
          have hy := hE y
          rw [hl.1] at hy
          have hcy : ρ y = .int k x := by generalize ρ y = cy at hy; cases hy; rfl
          obtain ⟨h1, h2⟩ := list_rel hE ys
          rw [hl.2] at h1 h2
          have := (maxs_run (P := P) (w := w) hu h1 h2).next
          have ha : args = (y :: ys).toArray := by rw [← hal]
          subst ha
          simpa [execOp, resolve, invoke, builtin, Builtin.max_, hcy] using this
      · cases h
    · split at h
      · rename_i k x l hl
        rw [Option.map_eq_some_iff] at h
        obtain ⟨u, hu, hq⟩ := h
        simp only [Prod.mk.injEq] at hq
        obtain ⟨_, rfl⟩ := hq
        cases hal : args.toList with
        | nil => rw [hal] at hl; cases hl
        | cons y ys =>
          rw [hal] at hl
          simp only [List.map_cons, List.cons.injEq] at hl
          have hy := hE y
          rw [hl.1] at hy
          have hcy : ρ y = .int k x := by generalize ρ y = cy at hy; cases hy; rfl
          obtain ⟨h1, h2⟩ := list_rel hE ys
          rw [hl.2] at h1 h2
          have := (mins_run (P := P) (w := w) hu h1 h2).next
          have ha : args = (y :: ys).toArray := by rw [← hal]
          subst ha
          simpa [execOp, resolve, invoke, builtin, Builtin.min_, hcy] using this
      · cases h
    · cases h
end
end Go.AM
end
section
namespace Go.AM
open Go.RowKit
set_option linter.unusedVariables false
set_option linter.unusedSimpArgs false
structure RelS (n0 : Nat) (w0 : World) (μ : Pm) (F : Mem) (O : Objs) (K : Toks) (nx : Nat) (w : World) : Prop where
  o : RelO n0 w0 μ F O nx w
  t : RelT n0 μ F O K w
section
variable {P : Program} {T : Tab} {μ : Pm} {F : Mem} {n0 nx : Nat} {w0 w w' : World} {O : Objs} {K : Toks}

theorem heap_lt {b : Nat} {o : Obj} (h : w.heap[b]? = some o) : b < w.heap.size := (Array.getElem?_eq_some_iff.1 h).1
theorem cell_lt {a : Addr} {v : Value} (h : w.cell? a = some v) : a.block < w.heap.size := World.block_lt_of_cell? w a h

/-- all that lay lies as it lay -/
theorem RelS.keep (h : RelS n0 w0 μ F O K nx w) (hb : Below w.heap.size w w') : RelS n0 w0 μ F O K nx w' := by
  have hold : ∀ {b : Nat} {o : Obj}, w.heap[b]? = some o → w'.heap[b]? = some o := fun {b o} hq => (hb.block b (heap_lt hq)).trans hq
  refine ⟨⟨h.o.below.trans (hb.mono h.o.base), Nat.le_trans h.o.base hb.size, h.o.fresh, ?_, h.o.apart, ?_, h.o.froz⟩, ⟨?_, h.t.apart⟩⟩
  · intro id o ho
    obtain ⟨b, cs, cur, h1, h2, h3, h4⟩ := h.o.obj id o ho
    exact ⟨b, cs, cur, h1, h2, hold h3, h4⟩
  · intro a v ha
    have := h.o.mem a v ha
    rw [hb.cell (cell_lt this)]; exact this
  · intro id ty sz n hid
    obtain ⟨cv, h1, h2, h3⟩ := h.t.tok id ty sz n hid
    refine ⟨cv, h1, h2, ?_⟩
    rcases h3 with h3 | ⟨b, cap, cur, h4, h5, h6, h7, h8, h9, h10⟩
    · exact .inl h3
    · exact .inr ⟨b, cap, cur, h4, h5, h6, h7, h8, hold h9, h10⟩

def Pm.add (μ : Pm) (id : Nat) (p : Pl) : Pm := fun i => if i = id then some p else μ i
theorem Pm.add_same (μ : Pm) (id : Nat) (p : Pl) : μ.add id p id = some p := if_pos rfl
theorem Pm.add_other (μ : Pm) {id i : Nat} (p : Pl) (h : i ≠ id) : μ.add id p i = μ i := if_neg h
theorem Pm.le_add {id : Nat} (p : Pl) (h : μ id = none) : μ.le (μ.add id p) := by
  refine ⟨fun i b cs sz hi => ?_, fun i n cv hi => ⟨n, cv, ?_, Nat.le_refl _, fun _ => rfl⟩⟩
  · rw [Pm.add_other _ _ (by rintro rfl; rw [h] at hi; cases hi)]; exact hi
  · rw [Pm.add_other _ _ (by rintro rfl; rw [h] at hi; cases hi)]; exact hi
theorem RelS.obj_lt (h : RelS n0 w0 μ F O K nx w) {id : Nat} {o : Ob} (ho : lk O id = some o) : id < nx := by
  obtain ⟨b, cs, cur, h1, _⟩ := h.o.obj id o ho
  rcases Nat.lt_or_ge id nx with h2 | h2
  · exact h2
  · rw [h.o.fresh id h2] at h1; cases h1
theorem RelS.tok_lt (h : RelS n0 w0 μ F O K nx w) {id ty sz n : Nat} (ho : lt K id = some (ty, sz, n)) : id < nx := by
  obtain ⟨cv, h1, _⟩ := h.t.tok id ty sz n ho
  rcases Nat.lt_or_ge id nx with h2 | h2
  · exact h2
  · rw [h.o.fresh id h2] at h1; cases h1
theorem lt_cons (i id : Nat) (o : Option (Nat × Nat × Nat)) (r : Toks) : lt ((i, o) :: r) id = if i = id then o else lt r id := by
  simp only [lt]
  by_cases h : i = id
  · subst h; simp
  · have : Nat.beq i id = false := by cases hb : Nat.beq i id with | false => rfl | true => exact absurd (Nat.eq_of_beq_eq_true hb) h
    simp [this, h]

/-- a new object, in a new block -/
theorem RelS.new (h : RelS n0 w0 μ F O K nx w) (hb : Below w.heap.size w w') {b : Nat} (hbn : w.heap.size ≤ b) {cur : Array Value} {o : Ob} (hblk : w'.heap[b]? = some (.cells cur o.ty (0, 0)))
    (hle : o.es.length * o.sz ≤ cur.size) (hlen : ∀ (i : Nat) c, o.es[i]? = some c → c.length = o.sz)
    (hrel : ∀ (i : Nat) c (j : Nat) v, o.es[i]? = some c → c[j]? = some v → RelV F μ v (cur.getD (i * o.sz + j) undef) ∧ (cur.getD (i * o.sz + j) undef).oneCell' = true) :
    RelS n0 w0 (μ.add nx (.ob b cur.size o.sz)) F ((nx, some o) :: O) K (nx + 1) w' := by
  have h' := h.keep hb
  have hle' : μ.le (μ.add nx (.ob b cur.size o.sz)) := Pm.le_add _ (h.o.fresh nx (Nat.le_refl _))
  have hother : ∀ {id : Nat}, id < nx → (μ.add nx (.ob b cur.size o.sz)) id = μ id := fun {id} hid => Pm.add_other _ _ (by omega)
  have hold : ∀ {id : Nat} {q : Ob}, lk O id = some q → ∀ {b' cs' sz'}, μ id = some (.ob b' cs' sz') → b' < w.heap.size := by
    intro id q hq b' cs' sz' hm
    obtain ⟨b1, cs1, cur1, h1, _, h3, _⟩ := h.o.obj id q hq
    rw [hm] at h1; cases h1; exact heap_lt h3
  refine ⟨⟨h'.o.below, h'.o.base, fun id hid => ?_, ?_, ?_, h'.o.mem, ?_⟩, ⟨?_, ?_⟩⟩
  · rw [Pm.add_other _ _ (by omega)]; exact h.o.fresh id (by omega)
  · intro id q hq
    rw [lk_cons] at hq
    split at hq
    · rename_i he; subst he; cases hq
      exact ⟨b, cur.size, cur, Pm.add_same _ _ _, Nat.le_trans h.o.base hbn, hblk, rfl, hle, hlen, fun i c j v h1 h2 => ⟨(hrel i c j v h1 h2).1.mono hle' (fun _ _ q => q), (hrel i c j v h1 h2).2⟩⟩
    · obtain ⟨b1, cs1, cur1, h1, h2, h3, h4, h5, h6, h7⟩ := h'.o.obj id q hq
      refine ⟨b1, cs1, cur1, by rw [hother (h.obj_lt hq)]; exact h1, h2, h3, h4, h5, h6, fun i c j v p1 p2 => ⟨(h7 i c j v p1 p2).1.mono hle' (fun _ _ q => q), (h7 i c j v p1 p2).2⟩⟩
  · intro id id' q q' b1 cs1 sz1 b2 cs2 sz2 hne hq hq' hm hm'
    rw [lk_cons] at hq hq'
    split at hq
    · rename_i he; subst he
      rw [Pm.add_same] at hm; cases hm
      rw [if_neg hne] at hq'
      rw [hother (h.obj_lt hq')] at hm'
      have := hold hq' hm'; omega
    · rw [hother (h.obj_lt hq)] at hm
      split at hq'
      · rename_i he; subst he
        rw [Pm.add_same] at hm'; cases hm'
        have := hold hq hm; omega
      · rw [hother (h.obj_lt hq')] at hm'
        exact h.o.apart id id' q q' _ _ _ _ _ _ hne hq hq' hm hm'
  · intro id q b1 cs1 sz1 hq hm a v ha hab
    rw [lk_cons] at hq
    split at hq
    · rename_i he; subst he
      rw [Pm.add_same] at hm; cases hm
      have := cell_lt (h.o.mem a v ha); omega
    · rw [hother (h.obj_lt hq)] at hm
      exact h.o.froz id q _ _ _ hq hm a v ha hab
  · intro id ty sz n hid
    obtain ⟨cv, h1, h2, h3⟩ := h'.t.tok id ty sz n hid
    refine ⟨cv, by rw [hother (h.tok_lt hid)]; exact h1, h2, ?_⟩
    rcases h3 with h3 | ⟨b1, cap, cur1, h4, h5, h50, h6, h7, h8, h9, h10, h11⟩
    · exact .inl h3
    · refine .inr ⟨b1, cap, cur1, h4, h5, h50, h6, h7, h8, h9, h10, fun id' q cs' sz' hq hm => ?_⟩
      rw [lk_cons] at hq
      split at hq
      · rename_i he; subst he
        rw [Pm.add_same] at hm; cases hm
        obtain ⟨cv2, k1, _, k3⟩ := h.t.tok id ty sz n hid
        rw [h1] at k1; cases k1
        rcases k3 with ⟨_, _, k⟩ | ⟨b3, cap3, cur3, k4, _, _, _, _, k8, _⟩
        · rw [h4] at k; cases k; omega
        · rw [h4] at k4; cases k4; have := heap_lt k8; omega
      · rw [hother (h.obj_lt hq)] at hm
        exact h11 id' q cs' sz' hq hm
  · intro id id' ty sz ty' sz' n n' b1 b2 m m' cap cap' hne hq hq' hm hm' p1 p2
    rw [hother (h.tok_lt hq)] at hm
    rw [hother (h.tok_lt hq')] at hm'
    exact h.t.apart id id' ty sz ty' sz' n n' b1 b2 m m' cap cap' hne hq hq' hm hm' p1 p2

/-- an object, a slice that was appended to, left alone from now on -/
theorem RelS.kill (h : RelS n0 w0 μ F O K nx w) (id : Nat) : RelS n0 w0 μ F ((id, none) :: O) K nx w := by
  have hsub : ∀ {i : Nat} {o : Ob}, lk ((id, none) :: O) i = some o → lk O i = some o := by
    intro i o ho
    rw [lk_cons] at ho
    split at ho
    · cases ho
    · exact ho
  exact ⟨⟨h.o.below, h.o.base, h.o.fresh, fun i o ho => h.o.obj i o (hsub ho), fun i i' o o' b cs sz b' cs' sz' hne ho ho' => h.o.apart i i' o o' b cs sz b' cs' sz' hne (hsub ho) (hsub ho'), h.o.mem, fun i o b cs sz ho => h.o.froz i o b cs sz (hsub ho)⟩,
    ⟨fun i ty sz n hi => by
      obtain ⟨cv, h1, h2, h3⟩ := h.t.tok i ty sz n hi
      refine ⟨cv, h1, h2, ?_⟩
      rcases h3 with h3 | ⟨b1, cap, cur1, h4, h5, h50, h6, h7, h8, h9, h10, h11⟩
      · exact .inl h3
      · exact .inr ⟨b1, cap, cur1, h4, h5, h50, h6, h7, h8, h9, h10, fun id' q cs' sz' hq hm => h11 id' q cs' sz' (hsub hq) hm⟩, h.t.apart⟩⟩
/-- a nil slice, to be appended to -/
theorem RelS.nil (h : RelS n0 w0 μ F O K nx w) (ty : Nat) {sz : Nat} (hsz : 0 < sz) : RelS n0 w0 (μ.add nx (.tk 0 (.slice none 0 0))) F O ((nx, some (ty, sz, 0)) :: K) (nx + 1) w := by
  have hle' : μ.le (μ.add nx (.tk 0 (.slice none 0 0))) := Pm.le_add _ (h.o.fresh nx (Nat.le_refl _))
  have hother : ∀ {id : Nat}, id < nx → (μ.add nx (.tk 0 (.slice none 0 0))) id = μ id := fun {id} hid => Pm.add_other _ _ (by omega)
  refine ⟨⟨h.o.below, h.o.base, fun id hid => ?_, ?_, ?_, h.o.mem, ?_⟩, ⟨?_, ?_⟩⟩
  · rw [Pm.add_other _ _ (by omega)]; exact h.o.fresh id (by omega)
  · intro id q hq
    obtain ⟨b1, cs1, cur1, h1, h2, h3, h4, h5, h6, h7⟩ := h.o.obj id q hq
    exact ⟨b1, cs1, cur1, by rw [hother (h.obj_lt hq)]; exact h1, h2, h3, h4, h5, h6, fun i c j v p1 p2 => ⟨(h7 i c j v p1 p2).1.mono hle' (fun _ _ q => q), (h7 i c j v p1 p2).2⟩⟩
  · intro id id' q q' b1 cs1 sz1 b2 cs2 sz2 hne hq hq' hm hm'
    rw [hother (h.obj_lt hq)] at hm
    rw [hother (h.obj_lt hq')] at hm'
    exact h.o.apart id id' q q' _ _ _ _ _ _ hne hq hq' hm hm'
  · intro id q b1 cs1 sz1 hq hm a v ha hab
    rw [hother (h.obj_lt hq)] at hm
    exact h.o.froz id q _ _ _ hq hm a v ha hab
  · intro id ty' sz' n hid
    rw [lt_cons] at hid
    split at hid
    · rename_i he; subst he; cases hid
      exact ⟨_, Pm.add_same _ _ _, hsz, .inl ⟨rfl, _, rfl⟩⟩
    · obtain ⟨cv, h1, h2, h3⟩ := h.t.tok id ty' sz' n hid
      refine ⟨cv, by rw [hother (h.tok_lt hid)]; exact h1, h2, ?_⟩
      rcases h3 with h3 | ⟨b1, cap, cur1, h4, h5, h50, h6, h7, h8, h9, h10, h11⟩
      · exact .inl h3
      · exact .inr ⟨b1, cap, cur1, h4, h5, h50, h6, h7, h8, h9, h10, fun id' q cs' sz' hq hm => by rw [hother (h.obj_lt hq)] at hm; exact h11 id' q cs' sz' hq hm⟩
  · intro id id' ty1 sz1 ty2 sz2 n n' b1 b2 m m' cap cap' hne hq hq' hm hm' p1 p2
    rw [lt_cons] at hq hq'
    split at hq
    · rename_i he; subst he
      rw [Pm.add_same] at hm; cases hm
    · rw [hother (h.tok_lt hq)] at hm
      split at hq'
      · rename_i he; subst he
        rw [Pm.add_same] at hm'; cases hm'
      · rw [hother (h.tok_lt hq')] at hm'
        exact h.t.apart id id' _ _ _ _ _ _ _ _ _ _ _ _ hne hq hq' hm hm' p1 p2
end
end Go.AM
end
section
namespace Go.AM
open Go.RowKit
set_option linter.unusedVariables false
set_option linter.unusedSimpArgs false
section
variable {P : Program} {T : Tab} {μ : Pm} {F : Mem} {n0 nx : Nat} {w0 w w' : World} {O : Objs} {K : Toks}

theorem getD_splice {A : List Value} {vs : List Value} {k q : Nat} (h : k + vs.length ≤ A.length) : (A.take k ++ vs ++ A.drop (k + vs.length)).toArray.getD q undef = if k ≤ q ∧ q < k + vs.length then vs.getD (q - k) undef else A.getD q undef := by
  have hk : (A.take k).length = k := by simp; omega
  rw [Array.getD_eq_getD_getElem?, List.getElem?_toArray]
  by_cases h1 : q < k
  · rw [if_neg (by omega), List.append_assoc, List.getElem?_append_left (by omega), List.getElem?_take, if_pos h1, List.getD_eq_getElem?_getD]
  · by_cases h2 : q < k + vs.length
    · rw [if_pos (by omega), List.append_assoc, List.getElem?_append_right (by omega), List.getElem?_append_left (by omega), hk, List.getD_eq_getElem?_getD]
    · have h3 : (A.take k ++ vs).length = k + vs.length := by simp; omega
      rw [if_neg (by omega), List.getElem?_append_right (by omega), h3, List.getElem?_drop, List.getD_eq_getElem?_getD]
      congr 2; omega

/-- a store into an object -/
theorem RelS.set (h : RelS n0 w0 μ F O K nx w) {id : Nat} {o : Ob} (ho : lk O id = some o) {b cs : Nat} (hm : μ id = some (.ob b cs o.sz)) {i j : Nat} {c vs : List AV} (hi : o.es[i]? = some c) {cvs : List Value} (hv : RelC μ F vs cvs)
    (hj : j + vs.length ≤ o.sz) (hf : o.fz ≤ i) : ∃ cur, w.heap[b]? = some (.cells cur o.ty (0, 0)) ∧ i * o.sz + j + cvs.length ≤ cur.size ∧
      RelS n0 w0 μ F ((id, some { o with es := o.es.set i (c.take j ++ vs ++ c.drop (j + vs.length)) }) :: O) K nx (w.setRow b (cur.toList.take (i * o.sz + j) ++ cvs ++ cur.toList.drop (i * o.sz + j + cvs.length)).toArray) := by
  obtain ⟨b1, cs1, cur, h1, h2, h3, h4, h5, h6, h7⟩ := h.o.obj id o ho
  rw [hm] at h1; cases h1
  have hil : i < o.es.length := (List.getElem?_eq_some_iff.1 hi).1
  have hcl := h6 i c hi
  have hmul : i * o.sz + o.sz ≤ o.es.length * o.sz := by
    have : (i + 1) * o.sz ≤ o.es.length * o.sz := Nat.mul_le_mul_right _ hil
    rwa [Nat.add_mul, Nat.one_mul] at this
  have hlen := hv.1
  have hfit : i * o.sz + j + cvs.length ≤ cur.size := by omega
  refine ⟨cur, h3, hfit, ?_⟩
  generalize hcur : (cur.toList.take (i * o.sz + j) ++ cvs ++ cur.toList.drop (i * o.sz + j + cvs.length)).toArray = cur'
  have hsz' : cur'.size = cur.size := by rw [← hcur]; simp; omega
  have hget : ∀ q, cur'.getD q undef = if i * o.sz + j ≤ q ∧ q < i * o.sz + j + cvs.length then cvs.getD (q - (i * o.sz + j)) undef else cur.getD q undef := by
    intro q
    rw [← hcur, getD_splice (by simpa using hfit)]
    simp [Array.getD_eq_getD_getElem?, List.getD_eq_getElem?_getD]
  have hnew := setRow_heap w b cur cur' o.ty (0, 0) h3
  have hoth : ∀ {k : Nat}, k ≠ b → (w.setRow b cur').heap[k]? = w.heap[k]? := fun {k} hk => setRow_other w b k cur' hk
  have hcell : ∀ a v, F a = some v → (w.setRow b cur').cell? a = some v := by
    intro a v ha
    have hc := h.o.mem a v ha
    by_cases hab : a.block = b
    · have hoff := h.o.froz id o _ _ _ ho hm a v ha hab
      obtain ⟨ab, ao, asp⟩ := a
      dsimp only at hab hoff; subst hab
      cases asp with
      | some s => simp [World.cell?, h3] at hc
      | none =>
        rw [cell_setRow_same w _ ao cur cur' o.ty (0, 0) h3]
        have hc' := hc
        rw [cell_of_row w _ ao cur o.ty (0, 0) h3] at hc'
        have hq := hget ao
        have hlt : o.fz * o.sz ≤ i * o.sz := Nat.mul_le_mul_right _ hf
        rw [if_neg (by omega)] at hq
        have hal : ao < cur.size := (Array.getElem?_eq_some_iff.1 hc').1
        rw [Array.getD_eq_getD_getElem?, Array.getD_eq_getD_getElem?, hc', Array.getElem?_eq_getElem (by omega)] at hq
        rw [Array.getElem?_eq_getElem (by omega)]
        exact congrArg some hq
    · rw [cell_setRow_other w b cur' a hab]; exact hc
  refine ⟨⟨?_, by simpa using h.o.base, h.o.fresh, ?_, ?_, hcell, ?_⟩, ⟨?_, h.t.apart⟩⟩
  · exact h.o.below.trans ⟨rfl, rfl, rfl, by simp, fun k hk => hoth (by omega)⟩
  · intro id' q hq
    rw [lk_cons] at hq
    split at hq
    · rename_i he; subst he; cases hq
      refine ⟨b, cs, cur', hm, h2, hnew, by rw [hsz', h4], by rw [hsz']; simpa using h5, ?_, ?_⟩
      · intro i' c' hi'
        by_cases hii : i' = i
        · subst hii
          simp [hil] at hi'
          subst hi'
          simp; omega
        · dsimp only at hi'; rw [List.getElem?_set_ne (Ne.symm hii)] at hi'
          exact h6 i' c' hi'
      · intro i' c' j' v hi' hj'
        dsimp only at hi' ⊢
        rw [hget]
        by_cases hii : i' = i
        · subst hii
          simp [hil] at hi'
          subst hi'
          have hlt : (c.take j).length = j := by simp; omega
          by_cases a1 : j' < j
          · rw [if_neg (by omega)]
            rw [List.getElem?_append_left (by omega), List.getElem?_take, if_pos a1] at hj'
            exact h7 i' c j' v hi hj'
          · by_cases a2 : j' < j + vs.length
            · rw [if_pos (by omega)]
              rw [List.getElem?_append_right (by omega), hlt, List.getElem?_append_left (by omega)] at hj'
              obtain ⟨cv, e1, e2, e3⟩ := hv.2 _ v hj'
              have : i' * o.sz + j' - (i' * o.sz + j) = j' - j := by omega
              rw [this, List.getD_eq_getElem?_getD, e1]
              exact ⟨e2, e3⟩
            · rw [if_neg (by omega)]
              rw [List.getElem?_append_right (by omega), hlt, List.getElem?_append_right (by omega), List.getElem?_drop] at hj'
              have : j + vs.length + (j' - j - vs.length) = j' := by omega
              rw [this] at hj'
              exact h7 i' c j' v hi hj'
        · rw [List.getElem?_set_ne (Ne.symm hii)] at hi'
          have hj'l : j' < o.sz := by rw [← h6 i' c' hi']; exact (List.getElem?_eq_some_iff.1 hj').1
          rw [if_neg ?_]
          · exact h7 i' c' j' v hi' hj'
          · rcases Nat.lt_or_gt_of_ne hii with hlt | hgt
            · have : (i' + 1) * o.sz ≤ i * o.sz := Nat.mul_le_mul_right _ hlt
              rw [Nat.add_mul, Nat.one_mul] at this; omega
            · have : (i + 1) * o.sz ≤ i' * o.sz := Nat.mul_le_mul_right _ hgt
              rw [Nat.add_mul, Nat.one_mul] at this; omega
    · rename_i hne
      obtain ⟨b1, cs1, cur1, k1, k2, k3, k4⟩ := h.o.obj id' q hq
      have hbb : b1 ≠ b := h.o.apart id' id q o _ _ _ _ _ _ (Ne.symm hne) hq ho k1 hm
      exact ⟨b1, cs1, cur1, k1, k2, (hoth hbb).trans k3, k4⟩
  · intro id1 id2 q1 q2 b1 cs1 sz1 b2 cs2 sz2 hne hq1 hq2 hm1 hm2
    have sub : ∀ {i : Nat} {q : Ob}, lk ((id, some { o with es := o.es.set i (c.take j ++ vs ++ c.drop (j + vs.length)) }) :: O) i = some q → ∃ q', lk O i = some q' := by
      intro i q hq
      rw [lk_cons] at hq
      split at hq
      · rename_i he; subst he; exact ⟨o, ho⟩
      · exact ⟨q, hq⟩
    have sub' : ∀ {i' : Nat} {q : Ob}, lk ((id, some { o with es := o.es.set i (c.take j ++ vs ++ c.drop (j + vs.length)) }) :: O) i' = some q → ∃ q', lk O i' = some q' := by
      intro i' q hq
      rw [lk_cons] at hq
      split at hq
      · rename_i he; subst he; exact ⟨o, ho⟩
      · exact ⟨q, hq⟩
    obtain ⟨p1, hp1⟩ := sub' hq1
    obtain ⟨p2, hp2⟩ := sub' hq2
    exact h.o.apart id1 id2 p1 p2 _ _ _ _ _ _ hne hp1 hp2 hm1 hm2
  · intro id' q b1 cs1 sz1 hq hm1 a v ha hab
    rw [lk_cons] at hq
    split at hq
    · rename_i he; subst he; cases hq
      exact h.o.froz _ o _ _ _ ho hm1 a v ha hab
    · exact h.o.froz id' q _ _ _ hq hm1 a v ha hab
  · intro id' ty sz n hid
    obtain ⟨cv, k1, k2, k3⟩ := h.t.tok id' ty sz n hid
    refine ⟨cv, k1, k2, ?_⟩
    rcases k3 with k3 | ⟨b1, cap, cur1, k4, k5, k50, k6, k7, k8, k9, k10, k11⟩
    · exact .inl k3
    · have hbb : b1 ≠ b := by rintro rfl; exact k11 id o _ _ ho hm
      refine .inr ⟨b1, cap, cur1, k4, k5, k50, k6, k7, (hoth hbb).trans k8, k9, k10, fun id2 q cs' sz' hq hm2 => ?_⟩
      rw [lk_cons] at hq
      split at hq
      · rename_i he; subst he; exact k11 _ o _ _ ho hm2
      · exact k11 id2 q cs' sz' hq hm2
end
end Go.AM
end
section
namespace Go.AM
open Go.RowKit
set_option linter.unusedVariables false
set_option linter.unusedSimpArgs false
section
variable {P : Program} {T : Tab} {μ : Pm} {F : Mem} {n0 nx : Nat} {w0 w w' : World} {O : Objs} {K : Toks}

/-- elements, flat -/
def Flat (F : Mem) (sz : Nat) (l : List (List AV)) (cs : List Value) : Prop :=
  cs.length = l.length * sz ∧ (∀ (i : Nat) c, l[i]? = some c → c.length = sz) ∧ ∀ (i : Nat) c (j : Nat) v, l[i]? = some c → c[j]? = some v → ∃ cv, cs[i * sz + j]? = some cv ∧ RelV F Pm0 v cv ∧ cv.oneCell' = true
theorem Flat.mono {F' : Mem} (hF : ∀ a v, F a = some v → F' a = some v) {sz : Nat} {l : List (List AV)} {cs : List Value} (h : Flat F sz l cs) : Flat F' sz l cs :=
  ⟨h.1, h.2.1, fun i c j v h1 h2 => by obtain ⟨cv, a, b, c'⟩ := h.2.2 i c j v h1 h2; exact ⟨cv, a, b.mono (Pm.le.refl _) hF, c'⟩⟩
theorem Flat.app {sz : Nat} {l m : List (List AV)} {cs ds : List Value} (h : Flat F sz l cs) (k : Flat F sz m ds) : Flat F sz (l ++ m) (cs ++ ds) := by
  refine ⟨by simp [h.1, k.1, Nat.add_mul], fun i c hi => ?_, fun i c j v hi hj => ?_⟩
  · by_cases hil : i < l.length
    · rw [List.getElem?_append_left hil] at hi; exact h.2.1 i c hi
    · rw [List.getElem?_append_right (by omega)] at hi; exact k.2.1 _ c hi
  · by_cases hil : i < l.length
    · rw [List.getElem?_append_left hil] at hi
      obtain ⟨cv, a, b, c'⟩ := h.2.2 i c j v hi hj
      have hlt := (List.getElem?_eq_some_iff.1 a).1
      exact ⟨cv, by rw [List.getElem?_append_left hlt]; exact a, b, c'⟩
    · rw [List.getElem?_append_right (by omega)] at hi
      obtain ⟨cv, a, b, c'⟩ := k.2.2 _ c j v hi hj
      have hge : l.length ≤ i := by omega
      have hmul : i * sz = l.length * sz + (i - l.length) * sz := by rw [← Nat.add_mul]; congr 1; omega
      refine ⟨cv, ?_, b, c'⟩
      rw [List.getElem?_append_right (by rw [h.1]; omega), h.1]
      have : i * sz + j - l.length * sz = (i - l.length) * sz + j := by omega
      rw [this]; exact a
/-- what a tree of rows tells of the memory -/
theorem ro_flat (hmem : ∀ a v, F a = some v → w.cell? a = some v) {l : List (List AV)} {cv : Value} (h : RelV F μ (.ro l) cv) {sz : Nat} (hsz : 0 < sz) (hz : ∀ (i : Nat) c, l[i]? = some c → c.length = sz) :
    (cv = .slice none 0 0 ∧ l = []) ∨ ∃ a cap cs, cv = .slice (some a) l.length cap ∧ l.length ≤ cap ∧ l.length ≤ maxLen ∧ Flat F sz l cs ∧ (∀ (j : Nat) v, cs[j]? = some v → w.cell? (a.add j) = some v) := by
  cases h with
  | ro0 => exact .inl ⟨rfl, rfl⟩
  | @ro _ _ b o cap sz' a f hz' hc hr hn hm ha =>
    refine .inr ⟨a, cap, (List.range (l.length * sz)).map fun k => f (k / sz) (k % sz), rfl, hn, hm, ⟨by simp, hz, ?_⟩, ?_⟩
    · intro i c j v hi hj
      have hjs : j < sz := by rw [← hz i c hi]; exact (List.getElem?_eq_some_iff.1 hj).1
      have hil : i < l.length := (List.getElem?_eq_some_iff.1 hi).1
      have hlt : i * sz + j < l.length * sz := by
        have : (i + 1) * sz ≤ l.length * sz := Nat.mul_le_mul_right _ hil
        rw [Nat.add_mul, Nat.one_mul] at this; omega
      refine ⟨f i j, ?_, hr i c j v hi hj, (hc i c j v hi hj).2⟩
      rw [List.getElem?_map, List.getElem?_range hlt]
      have h1 : (i * sz + j) / sz = i := by rw [Nat.mul_comm, Nat.mul_add_div hsz, Nat.div_eq_of_lt hjs, Nat.add_zero]
      have h2 : (i * sz + j) % sz = j := by rw [Nat.mul_comm, Nat.mul_add_mod, Nat.mod_eq_of_lt hjs]
      simp [h1, h2]
    · intro k v hk
      rw [List.getElem?_map] at hk
      cases hq : (List.range (l.length * sz))[k]? with
      | none => simp [hq] at hk
      | some q =>
        obtain ⟨h1, h2⟩ := List.getElem?_eq_some_iff.1 hq
        simp at h1 h2
        subst h2
        simp [hq] at hk
        have hil : k / sz < l.length := by rw [Nat.div_lt_iff_lt_mul hsz]; exact h1
        have hi := List.getElem?_eq_getElem hil
        have hlen := hz _ _ hi
        have hjl : k % sz < (l[k / sz]).length := by rw [hlen]; exact Nat.mod_lt _ hsz
        have hj := List.getElem?_eq_getElem hjl
        have hmm := (hc _ _ _ _ hi hj).1
        have hss : sz' = sz := by rw [← hz' _ _ hi, hlen]
        obtain rfl := ha (by intro e; rw [e] at hil; simp at hil)
        rw [hss] at hmm
        have := hmem _ _ hmm
        rw [← hk, Addr.add_mid]
        have he : o + k / sz * sz + k % sz = o + k := by
          have := Nat.div_add_mod k sz; rw [Nat.mul_comm] at this; omega
        rw [he] at this; exact this

/-- the memory, and cells of a block that aren't written any more -/
def memOf (F : Mem) (w : World) (b n : Nat) : Mem := fun a => if a.block = b ∧ a.off < n ∧ a.spot = none then w.cell? a else F a
theorem memOf_le {b n : Nat} (hmem : ∀ a v, F a = some v → w.cell? a = some v) : ∀ a v, F a = some v → memOf F w b n a = some v := by
  intro a v ha
  unfold memOf
  split
  · exact hmem a v ha
  · exact ha
theorem memOf_mem {b n : Nat} (hmem : ∀ a v, F a = some v → w.cell? a = some v) : ∀ a v, memOf F w b n a = some v → w.cell? a = some v := by
  intro a v ha
  unfold memOf at ha
  split at ha
  · exact ha
  · exact hmem a v ha
theorem memOf_in {b n : Nat} (hmem : ∀ a v, F a = some v → a.block = b → a.off < n) : ∀ a v, memOf F w b n a = some v → a.block = b → a.off < n := by
  intro a v ha hab
  unfold memOf at ha
  split at ha
  · rename_i h; exact h.2.1
  · exact hmem a v ha hab
theorem memOf_other {b n : Nat} {a : Addr} (h : a.block ≠ b) : memOf F w b n a = F a := by
  unfold memOf
  rw [if_neg (by intro h'; exact h h'.1)]
/-- a row that lies at the head of a block, as a tree -/
theorem ro_mk {b n cap sz : Nat} {l : List (List AV)} {cur : Array Value} {ty : Nat} (hb : w.heap[b]? = some (.cells cur ty (0, 0))) (hf : Flat F sz l (cur.toList.take (l.length * sz))) (hn : l.length ≤ cap) (hm : l.length ≤ maxLen)
    (hF : ∀ k, k < l.length * sz → F ⟨b, k, none⟩ = w.cell? ⟨b, k, none⟩) : RelV F μ (.ro l) (.slice (some ⟨b, 0, none⟩) l.length cap) := by
  have key : ∀ (i : Nat) c (j : Nat) v, l[i]? = some c → c[j]? = some v → F ⟨b, 0 + i * sz + j, none⟩ = some (cur.getD (i * sz + j) undef) ∧ (cur.getD (i * sz + j) undef).oneCell' = true ∧ RelV F Pm0 v (cur.getD (i * sz + j) undef) := by
    intro i c j v hi hj
    obtain ⟨cv, h1, h2, h3⟩ := hf.2.2 i c j v hi hj
    rw [List.getElem?_take] at h1
    split at h1
    · rename_i hlt
      have h1' : cur[i * sz + j]? = some cv := by simpa using h1
      have hg : cur.getD (i * sz + j) undef = cv := by rw [Array.getD_eq_getD_getElem?, h1']; rfl
      rw [hg]
      refine ⟨?_, h3, h2⟩
      rw [Nat.zero_add, hF _ hlt, cell_of_row w b _ cur ty (0, 0) hb]
      exact h1'
    · cases h1
  exact .ro (fun i j => cur.getD (i * sz + j) undef) hf.2.1 (fun i c j v hi hj => ⟨(key i c j v hi hj).1, (key i c j v hi hj).2.1⟩) (fun i c j v hi hj => (key i c j v hi hj).2.2) hn hm (fun _ => rfl)

/-- a slice that was appended to stands anew, in a block 'b' -/
theorem RelS.step (h : RelS n0 w0 μ F O K nx w) {tok ty sz n : Nat} (hk : lt K tok = some (ty, sz, n)) {b : Nat} (hg : w.grownBy w' (some b)) (hb0 : n0 ≤ b) {cur : Array Value} (hblk : w'.heap[b]? = some (.cells cur ty (0, 0))) {n' cap : Nat} (hn' : n' ≤ cap) (hcp : 0 < cap) (hcap : cap ≤ maxLen) (hcs : cur.size = cap * sz)
    (hobj : ∀ id o cs sz', lk O id = some o → μ id ≠ some (.ob b cs sz')) (htok : ∀ id ty' sz' m, id ≠ tok → lt K id = some (ty', sz', m) → ∀ m' bb cc cap', μ id = some (.tk m' (.slice (some bb) cc cap')) → 0 < cap' → bb.block ≠ b)
    (hmem : ∀ a v, F a = some v → w'.cell? a = some v) (hin : ∀ a v, F a = some v → a.block = b → a.off < n' * sz) (hnn : n ≤ n') (heq : ∀ cv, μ tok = some (.tk n cv) → n = n' → cv = .slice (some ⟨b, 0, none⟩) n' cap) :
    RelS n0 w0 (μ.add tok (.tk n' (.slice (some ⟨b, 0, none⟩) n' cap))) (memOf F w' b (n' * sz)) O ((tok, some (ty, sz, n')) :: K) nx w' ∧ μ.le (μ.add tok (.tk n' (.slice (some ⟨b, 0, none⟩) n' cap))) := by
  obtain ⟨cv0, hm0, hsz, _⟩ := h.t.tok tok ty sz n hk
  have hle : μ.le (μ.add tok (.tk n' (.slice (some ⟨b, 0, none⟩) n' cap))) := by
    refine ⟨fun i b' cs' sz' hi => ?_, fun i m cv hi => ?_⟩
    · rw [Pm.add_other _ _ (by rintro rfl; rw [hm0] at hi; cases hi)]; exact hi
    · by_cases hit : i = tok
      · subst hit
        rw [hm0] at hi; cases hi
        exact ⟨n', _, Pm.add_same _ _ _, hnn, heq _ hm0⟩
      · exact ⟨m, cv, by rw [Pm.add_other _ _ hit]; exact hi, Nat.le_refl _, fun _ => rfl⟩
  have hFle := memOf_le (F := F) (w := w') (b := b) (n := n' * sz) hmem
  have hob : ∀ {id : Nat} {o : Ob}, lk O id = some o → id ≠ tok := by
    intro id o ho hit
    subst hit
    obtain ⟨b1, cs1, cur1, h1, _⟩ := h.o.obj _ o ho
    rw [hm0] at h1; cases h1
  refine ⟨⟨⟨h.o.below.trans ⟨hg.os, hg.tape, hg.output, hg.size, fun k hk' => hg.block k (Nat.lt_of_lt_of_le hk' h.o.base) (by simp; omega)⟩, Nat.le_trans h.o.base hg.size, fun id hid => ?_, ?_, ?_, memOf_mem hmem, ?_⟩, ⟨?_, ?_⟩⟩, hle⟩
  · have : id ≠ tok := by rintro rfl; rw [h.o.fresh id hid] at hm0; cases hm0
    rw [Pm.add_other _ _ this]; exact h.o.fresh id hid
  · intro id o ho
    obtain ⟨b1, cs1, cur1, h1, h2, h3, h4, h5, h6, h7⟩ := h.o.obj id o ho
    have hbb : b1 ≠ b := by rintro rfl; exact hobj id o _ _ ho h1
    refine ⟨b1, cs1, cur1, by rw [Pm.add_other _ _ (hob ho)]; exact h1, h2, ?_, h4, h5, h6, fun i c j v p1 p2 => ⟨(h7 i c j v p1 p2).1.mono hle hFle, (h7 i c j v p1 p2).2⟩⟩
    rw [hg.block b1 (heap_lt h3) (by simpa using hbb)]; exact h3
  · intro id id' o o' b1 cs1 sz1 b2 cs2 sz2 hne ho ho' hm hm'
    rw [Pm.add_other _ _ (hob ho)] at hm
    rw [Pm.add_other _ _ (hob ho')] at hm'
    exact h.o.apart id id' o o' _ _ _ _ _ _ hne ho ho' hm hm'
  · intro id o b1 cs1 sz1 ho hm a v ha hab
    rw [Pm.add_other _ _ (hob ho)] at hm
    have hbb : b1 ≠ b := by rintro rfl; exact hobj id o _ _ ho hm
    rw [memOf_other (by rw [hab]; exact hbb)] at ha
    exact h.o.froz id o _ _ _ ho hm a v ha hab
  · intro id ty' sz' m hid
    rw [lt_cons] at hid
    split at hid
    · rename_i he; subst he; cases hid
      refine ⟨_, Pm.add_same _ _ _, hsz, .inr ⟨b, cap, cur, rfl, hn', hcp, hcap, hb0, hblk, hcs, memOf_in hin, fun id' o' cs' sz' ho hm => ?_⟩⟩
      rw [Pm.add_other _ _ (hob ho)] at hm
      exact hobj id' o' _ _ ho hm
    · rename_i hne
      obtain ⟨cv, k1, k2, k3⟩ := h.t.tok id ty' sz' m hid
      refine ⟨cv, by rw [Pm.add_other _ _ (Ne.symm hne)]; exact k1, k2, ?_⟩
      rcases k3 with k3 | ⟨b1, cap1, cur1, k4, k5, k50, k6, k7, k8, k9, k10, k11⟩
      · exact .inl k3
      · have hbb : b1 ≠ b := by
          subst k4
          exact htok id ty' sz' m (Ne.symm hne) hid _ _ _ _ k1 k50
        refine .inr ⟨b1, cap1, cur1, k4, k5, k50, k6, k7, ?_, k9, fun a v ha hab => ?_, fun id' o' cs' sz'' ho hm => ?_⟩
        · rw [hg.block b1 (heap_lt k8) (by simpa using hbb)]; exact k8
        · rw [memOf_other (by rw [hab]; exact hbb)] at ha
          exact k10 a v ha hab
        · rw [Pm.add_other _ _ (hob ho)] at hm
          exact k11 id' o' _ _ ho hm
  · intro id id' ty1 sz1 ty2 sz2 m1 m2 bb bb' c1 c2 cap1 cap2 hne h1 h2 hm1 hm2 p1 p2
    rw [lt_cons] at h1 h2
    split at h1
    · rename_i he; subst he
      rw [Pm.add_same] at hm1; cases hm1
      rw [if_neg hne] at h2
      rw [Pm.add_other _ _ (Ne.symm hne)] at hm2
      exact Ne.symm (htok id' _ _ _ (Ne.symm hne) h2 _ _ _ _ hm2 p2)
    · rename_i hn1
      rw [Pm.add_other _ _ (Ne.symm hn1)] at hm1
      split at h2
      · rename_i he; subst he
        rw [Pm.add_same] at hm2; cases hm2
        exact htok id _ _ _ hne h1 _ _ _ _ hm1 p1
      · rename_i hn2
        rw [Pm.add_other _ _ (Ne.symm hn2)] at hm2
        exact h.t.apart id id' _ _ _ _ _ _ _ _ _ _ _ _ hne h1 h2 hm1 hm2 p1 p2
end
end Go.AM
end
section
namespace Go.AM
open Go.RowKit
set_option linter.unusedVariables false
set_option linter.unusedSimpArgs false
section
variable {P : Program} {T : Tab} {μ : Pm} {F : Mem} {n0 nx : Nat} {w0 w w' : World} {O : Objs} {K : Toks}

theorem RelS.same (h : RelS n0 w0 μ F O K nx w) {tok : Nat} {x : Nat × Nat × Nat} (hk : lt K tok = some x) : RelS n0 w0 μ F O ((tok, some x) :: K) nx w := by
  have e : ∀ i, lt ((tok, some x) :: K) i = lt K i := by
    intro i; rw [lt_cons]; split
    · rename_i he; subst he; exact hk.symm
    · rfl
  exact ⟨h.o, ⟨fun id ty sz n hid => h.t.tok id ty sz n (by rw [← e]; exact hid), fun id id' ty sz ty' sz' n n' b b' m m' cap cap' hne h1 h2 => h.t.apart id id' ty sz ty' sz' n n' b b' m m' cap cap' hne (by rw [← e]; exact h1) (by rw [← e]; exact h2)⟩⟩
theorem flat_ro (hmem : ∀ a v, F a = some v → w.cell? a = some v) {l : List (List AV)} {b n cap sz : Nat} {cur : Array Value} {ty : Nat} (hb : w.heap[b]? = some (.cells cur ty (0, 0))) (hsz : 0 < sz) (hz : ∀ (i : Nat) c, l[i]? = some c → c.length = sz)
    (h : RelV F μ (.ro l) (.slice (some ⟨b, 0, none⟩) n cap)) (hfit : l.length * sz ≤ cur.size) : Flat F sz l (cur.toList.take (l.length * sz)) := by
  rcases ro_flat hmem h hsz hz with ⟨h1, _⟩ | ⟨a, cap', cs, h1, _, _, hf, hc⟩
  · cases h1
  · cases h1
    have : cs = cur.toList.take (l.length * sz) := by
      apply List.ext_getElem?
      intro j
      rw [List.getElem?_take]
      by_cases hj : j < l.length * sz
      · rw [if_pos hj]
        have hjc : j < cs.length := by rw [hf.1]; exact hj
        have := hc j _ (List.getElem?_eq_getElem hjc)
        rw [Addr.add_mid, Nat.zero_add, cell_of_row w b j cur ty (0, 0) hb] at this
        rw [List.getElem?_eq_getElem hjc]
        simpa using this.symm
      · rw [if_neg hj]
        exact List.getElem?_eq_none (by rw [hf.1]; omega)
    rw [← this]; exact hf

theorem append_tok (hT : Tab.Ok P T) (h : RelS n0 w0 μ F O K nx w) {tok ty sz n : Nat} (hk : lt K tok = some (ty, sz, n)) {l m : List (List AV)} {cv cx : Value} (hv : RelV F μ (.app tok l) cv) (hl : l.length = n) {t tyx : Nat} (hkd : (T.at t).kind = .slice ty)
    (hsz : (T.at ty).size = sz) (hz0 : (T.at ty).zero.length = sz) (hby : (T.at ty).bytes ≠ 0) (hzl : ∀ (i : Nat) c, l[i]? = some c → c.length = sz)
    (hx : (cx = .slice none 0 0 ∧ m = []) ∨ ∃ a cap cs, cx = .slice (some a) m.length cap ∧ Flat F sz m cs ∧ ∀ (j : Nat) v, cs[j]? = some v → w.cell? (a.add j) = some v)
    (hbytes : (n + m.length) * (T.at ty).bytes ≤ 140737488355328) :
    ∃ cv' w' μ' F', (Builtin.append_ #[t, t] tyx #[cv, cx]).run P w = .ok cv' w' ∧ RelV F' μ' (.app tok (l ++ m)) cv' ∧ RelS n0 w0 μ' F' O ((tok, some (ty, sz, (l ++ m).length)) :: K) nx w' ∧ μ.le μ' ∧ (∀ a v, F a = some v → F' a = some v) ∧ (∀ a v, F' a = some v → a.block < n0 → F a = some v) ∧ KeepsOthers w w' := by
  obtain ⟨ti, hti, h1, _⟩ := hT.info (Tab.ne_none hkd (by simp))
  rw [h1] at hkd
  have hu := kind_slice hkd
  obtain ⟨cv0, hm0, hszp, hst⟩ := h.t.tok tok ty sz n hk
  obtain ⟨ei, hei, _, hes, heb, ⟨z, hzv, hzz⟩, _⟩ := hT.info (t := ty) (Tab.ne_none' (by omega))
  rw [hsz] at hes
  rw [heb] at hbytes hby
  have hzs : z.cells.size = ei.size := by rw [← hes, ← hz0, hzz]; simp [zeroOf]
  have hmax : n + m.length ≤ 140737488355328 := by
    have : (n + m.length) * 1 ≤ (n + m.length) * ei.bytes := Nat.mul_le_mul_left _ (by omega)
    omega
  have hmax' : n + m.length ≤ maxLen := by show _ ≤ 9223372036854775807; omega
  have hlen : (l ++ m).length = n + m.length := by simp [hl]
  obtain ⟨hro, hcv⟩ : RelV F Pm0 (.ro l) cv ∧ cv = cv0 := by
    cases hv with
    | app hro ht hle he =>
      rw [hm0] at ht; cases ht
      exact ⟨hro, he hl⟩
  subst hcv
  -- nothing comes
  have nothing : m = [] → (Builtin.append_ #[t, t] tyx #[cv, cx]).run P w = .ok cv w → ∃ cv' w' μ' F', (Builtin.append_ #[t, t] tyx #[cv, cx]).run P w = .ok cv' w' ∧ RelV F' μ' (.app tok (l ++ m)) cv' ∧ RelS n0 w0 μ' F' O ((tok, some (ty, sz, (l ++ m).length)) :: K) nx w' ∧ μ.le μ' ∧ (∀ a v, F a = some v → F' a = some v) ∧ (∀ a v, F' a = some v → a.block < n0 → F a = some v) ∧ KeepsOthers w w' := by
    intro hm hr
    subst hm
    refine ⟨cv, w, μ, F, hr, by rw [List.append_nil]; exact hv, ?_, Pm.le.refl _, fun _ _ q => q, fun _ _ q _ => q, KeepsOthers.refl w⟩
    rw [List.append_nil, hl]
    exact h.same hk
  -- the new block of a growth
  have grown : ∀ (olds news : List Value) (old cap : Nat), Flat F sz l olds → Flat F sz m news → old < n + m.length → cap = grownCap w (n + m.length) old ty →
      (Builtin.append_ #[t, t] tyx #[cv, cx]).run P w = .ok (.slice (some ⟨w.heap.size, 0, none⟩) (n + m.length) cap) (w.drew.alloc (.cells ((olds ++ news).toArray ++ Builtin.zeroCells z.cells (cap - (n + m.length))) ty)) → 0 < m.length →
      ∃ cv' w' μ' F', (Builtin.append_ #[t, t] tyx #[cv, cx]).run P w = .ok cv' w' ∧ RelV F' μ' (.app tok (l ++ m)) cv' ∧ RelS n0 w0 μ' F' O ((tok, some (ty, sz, (l ++ m).length)) :: K) nx w' ∧ μ.le μ' ∧ (∀ a v, F a = some v → F' a = some v) ∧ (∀ a v, F' a = some v → a.block < n0 → F a = some v) ∧ KeepsOthers w w' := by
    intro olds news old cap ho hnw hlt hcap hr hmp
    have hge : n + m.length ≤ cap := by rw [hcap]; exact grownCap_ge w _ old ty
    have hcm : cap ≤ maxLen := by rw [hcap]; exact grownCap_le_maxLen w _ old ty hmax'
    have hblk := heap_alloc_new w.drew (.cells ((olds ++ news).toArray ++ Builtin.zeroCells z.cells (cap - (n + m.length))) ty)
    generalize hw' : w.drew.alloc (.cells ((olds ++ news).toArray ++ Builtin.zeroCells z.cells (cap - (n + m.length))) ty) = w' at hr hblk
    generalize hcur : (olds ++ news).toArray ++ Builtin.zeroCells z.cells (cap - (n + m.length)) = cur at hw' hblk
    have hflen : (olds ++ news).length = (n + m.length) * sz := by rw [List.length_append, ho.1, hnw.1, hl, Nat.add_mul]
    have hcs : cur.size = cap * sz := by
      rw [← hcur]
      simp only [Array.size_append, List.size_toArray, size_zeroCells, hzs, hflen, ← hes, ← Nat.add_mul]
      congr 1; omega
    have hg : w.grownBy w' (some w.heap.size) := by rw [← hw']; exact ⟨rfl, rfl, rfl, by simp, fun k hk' _ => Below.heap_alloc w.drew _ k hk'⟩
    have hmem : ∀ a v, F a = some v → w'.cell? a = some v := fun a v ha => by
      have := h.o.mem a v ha
      rw [World.cell?_of_block (hg.block a.block (cell_lt this) (by have := cell_lt this; simp; omega))]
      exact this
    have hltF : ∀ a v, F a = some v → a.block < w.heap.size := fun a v ha => cell_lt (h.o.mem a v ha)
    obtain ⟨hS, hle⟩ := h.step (b := w.heap.size) hk hg h.o.base hblk (n' := n + m.length) hge (by omega) hcm hcs
      (fun id o cs sz' hid hm => by obtain ⟨b1, cs1, cur1, k1, _, k3, _⟩ := h.o.obj id o hid; rw [hm] at k1; cases k1; have := heap_lt k3; omega)
      (fun id ty' sz' mm hne hid m' bb cc cap' hm hp hbb => by
        obtain ⟨cv1, k1, _, k3⟩ := h.t.tok id ty' sz' mm hid
        rw [hm] at k1; cases k1
        rcases k3 with ⟨_, _, k⟩ | ⟨b3, cap3, cur3, k4, _, _, _, _, k8, _⟩
        · cases k; omega
        · cases k4; have := heap_lt k8; dsimp only at hbb; omega)
      hmem (fun a v ha hab => by have := hltF a v ha; omega) (by omega) (fun cvv hcc he => by omega)
    have hFle := memOf_le (F := F) (w := w') (b := w.heap.size) (n := (n + m.length) * sz) hmem
    refine ⟨_, w', _, _, hr, ?_, by rw [hlen]; exact hS, hle, hFle, fun a v ha hab => by have := h.o.base; rwa [memOf_other (by omega)] at ha, KeepsOthers.of_grownBy hg (fun j o e hj => by cases e; exact absurd (heap_lt hj) (Nat.lt_irrefl _))⟩
    have hflat : Flat (memOf F w' w.heap.size ((n + m.length) * sz)) sz (l ++ m) (cur.toList.take ((l ++ m).length * sz)) := by
      have e : cur.toList.take ((l ++ m).length * sz) = olds ++ news := by
        rw [← hcur, hlen, ← hflen, Array.toList_append]; exact List.take_left
      rw [e]
      exact (ho.mono hFle).app (hnw.mono hFle)
    have hcapl : (l ++ m).length ≤ cap := by rw [hlen]; exact hge
    have := ro_mk (μ := Pm0) (n := 0) hblk hflat hcapl (by rw [hlen]; exact hmax') (fun k hk' => by unfold memOf; rw [if_pos ⟨rfl, by rw [← hlen]; exact hk', rfl⟩])
    rw [hlen] at this
    refine .app this (Pm.add_same _ _ _) (by omega) (fun _ => rfl)
  rcases hst with ⟨hn0, base, hcv⟩ | ⟨b, cap, cur, hcv, hnc, hcp, hcm, hb0, hblk, hcs, hin, hno⟩
  · subst hcv
    have hl0 : l = [] := List.eq_nil_of_length_eq_zero (by omega)
    rcases hx with ⟨hcx, hm⟩ | ⟨a, capx, cs, hcx, hf, hc⟩
    · subst hcx
      exact nothing hm (by cases base <;> simp [Builtin.append_, run_und hu, run_size hei, run_info hei, Builtin.lenOf, Builtin.firstCells, storeCells])
    · subst hcx
      by_cases hm : m = []
      · have hcs0 : cs = [] := List.eq_nil_of_length_eq_zero (by rw [hf.1, hm]; simp)
        subst hm
        exact nothing rfl (by cases base <;> simp [Builtin.append_, run_und hu, run_size hei, run_info hei, Builtin.lenOf, Builtin.firstCells, loadCells, loadCellsFrom, storeCells])
      · have hmp : 0 < m.length := List.length_pos_iff.2 hm
        refine grown [] cs 0 _ ⟨by simp [hl0], hzl, fun i c j v hi hj => by rw [hl0] at hi; simp at hi⟩ hf (by omega) rfl ?_ hmp
        rw [hn0, Nat.zero_add]
        cases base with
        | none =>
          have hr := run_append_nil (P := P) w t tyx ty ei z hu hei hzv a m.length capx cs (by rw [hf.1, hes]) hc hmp (by omega) (by rw [hn0, Nat.zero_add] at hbytes; omega)
          simpa using hr
        | some bb =>
          have hr := run_append_grow (P := P) w t tyx ty ei z hu hei hzv bb 0 0 [] (by simp) (fun j u hj => by simp at hj) a m.length capx cs (by rw [hf.1, hes]) hc (by omega) (by omega) (growslice_fits (by omega) (by rw [hn0] at hbytes; exact hbytes))
          simpa using hr
  · subst hcv
    have hfl := flat_ro (w := w) h.o.mem hblk hszp hzl hro (by rw [hl, hcs]; exact Nat.mul_le_mul_right _ hnc)
    rcases hx with ⟨hcx, hm⟩ | ⟨a, capx, cs, hcx, hf, hc⟩
    · subst hcx
      refine nothing hm ?_
      have : n ≤ cap := hnc
      simp [Builtin.append_, run_und hu, run_size hei, run_info hei, Builtin.lenOf, Builtin.firstCells, this, storeCells]
    · subst hcx
      by_cases hroom : n + m.length ≤ cap
      · have hfit : n * ei.size + cs.length ≤ cur.size := by rw [hf.1, hcs, ← hes, ← Nat.add_mul]; exact Nat.mul_le_mul_right _ hroom
        have hone : ∀ u ∈ cs, u.oneCell' = true := by
          intro u hu'
          obtain ⟨q, hq⟩ := List.getElem?_of_mem hu'
          have hqlt : q < m.length * sz := by rw [← hf.1]; exact (List.getElem?_eq_some_iff.1 hq).1
          have hil : q / sz < m.length := by rw [Nat.div_lt_iff_lt_mul hszp]; exact hqlt
          have hi := List.getElem?_eq_getElem hil
          have hjl : q % sz < (m[q / sz]).length := by rw [hf.2.1 _ _ hi]; exact Nat.mod_lt _ hszp
          obtain ⟨cv1, e1, _, e3⟩ := hf.2.2 _ _ _ _ hi (List.getElem?_eq_getElem hjl)
          have he : q / sz * sz + q % sz = q := by have := Nat.div_add_mod q sz; rw [Nat.mul_comm] at this; omega
          rw [he, hq] at e1; cases e1; exact e3
        have hr := run_append_room (P := P) w t tyx ty ei hu hei b n cap cur hblk a m.length capx cs (by rw [hf.1, hes]) hc hone hroom hfit
        by_cases hm : m = []
        · have hcs0 : cs = [] := List.eq_nil_of_length_eq_zero (by rw [hf.1, hm]; simp)
          subst hm hcs0
          refine nothing rfl ?_
          rw [hr]
          simp only [List.append_nil, List.length_nil, Nat.add_zero, List.take_append_drop, Array.toArray_toList]
          rw [setRow_self w b cur ty (0, 0) hblk]
        have hmp : 0 < m.length := List.length_pos_iff.2 hm
        rw [← hes] at hr hfit
        generalize hcur : (cur.toList.take (n * sz) ++ cs ++ cur.toList.drop (n * sz + cs.length)).toArray = cur' at hr
        have hnew := setRow_heap w b cur cur' ty (0, 0) hblk
        have hg : w.grownBy (w.setRow b cur') (some b) := ⟨rfl, rfl, rfl, by simp, fun k _ hk' => setRow_other w b k _ (fun e => hk' (by simp [e]))⟩
        have hsz' : cur'.size = cap * sz := by rw [← hcur, ← hcs]; simp; omega
        have hmem : ∀ a v, F a = some v → (w.setRow b cur').cell? a = some v := by
          intro a v ha
          have hc' := h.o.mem a v ha
          by_cases hab : a.block = b
          · have hoff := hin a v ha hab
            obtain ⟨ab, ao, asp⟩ := a
            dsimp only at hab hoff; subst hab
            cases asp with
            | some s => simp [World.cell?, hblk] at hc'
            | none =>
              rw [cell_setRow_same w _ ao cur cur' ty (0, 0) hblk]
              rw [cell_of_row w _ ao cur ty (0, 0) hblk] at hc'
              rw [← hcur, List.getElem?_toArray, List.append_assoc, List.getElem?_append_left (by simp; omega), List.getElem?_take, if_pos hoff]
              simpa using hc'
          · rw [cell_setRow_other w b cur' a hab]; exact hc'
        obtain ⟨hS, hle⟩ := h.step (b := b) hk hg hb0 hnew (n' := n + m.length) hroom hcp hcm hsz' (fun id o cs' sz' hid => hno id o cs' sz' hid)
          (fun id ty' sz' mm hne hid m' bb cc cap' hm' hp hbb => by
            obtain ⟨cvt, kt, _⟩ := h.t.tok id ty' sz' mm hid
            rw [hm'] at kt; cases kt
            exact h.t.apart id tok ty' sz' ty sz _ _ bb ⟨b, 0, none⟩ cc n cap' cap hne hid hk hm' hm0 hp hcp hbb)
          hmem (fun a v ha hab => by have := hin a v ha hab; have : n * sz ≤ (n + m.length) * sz := Nat.mul_le_mul_right _ (by omega); omega) (by omega) (fun cvv hcc he => by omega)
        have hFle := memOf_le (F := F) (w := w.setRow b cur') (b := b) (n := (n + m.length) * sz) hmem
        refine ⟨_, _, _, _, hr, ?_, by rw [hlen]; exact hS, hle, hFle, fun a v ha hab => by rwa [memOf_other (by omega)] at ha, KeepsOthers.of_grownBy hg (fun j o e hj => by cases e; rw [hblk] at hj; cases hj; rfl)⟩
        have hflat : Flat (memOf F (w.setRow b cur') b ((n + m.length) * sz)) sz (l ++ m) (cur'.toList.take ((l ++ m).length * sz)) := by
          have e : cur'.toList.take ((l ++ m).length * sz) = cur.toList.take (l.length * sz) ++ cs := by
            rw [← hcur, hlen, hl]
            have hlen2 : (cur.toList.take (n * sz) ++ cs).length = (n + m.length) * sz := by
              rw [List.length_append, List.length_take, hf.1, Nat.add_mul]
              rw [Nat.min_eq_left (by simp; omega)]
            rw [← hlen2]
            exact List.take_left
          rw [e]
          exact (hfl.mono hFle).app (hf.mono hFle)
        have := ro_mk (μ := Pm0) (n := 0) hnew hflat (cap := cap) (by rw [hlen]; exact hroom) (by rw [hlen]; exact hmax') (fun k hk' => by unfold memOf; rw [if_pos ⟨rfl, by rw [← hlen]; exact hk', rfl⟩])
        rw [hlen] at this
        exact .app this (Pm.add_same _ _ _) (by omega) (fun _ => rfl)
      · have holds : ∀ (j : Nat) u, (cur.toList.take (l.length * sz))[j]? = some u → w.cell? ((⟨b, 0, none⟩ : Addr).add j) = some u := by
          intro j u hj
          rw [Addr.add_mid, Nat.zero_add, cell_of_row w b j cur ty (0, 0) hblk]
          rw [List.getElem?_take] at hj
          split at hj
          · simpa using hj
          · cases hj
        have hr := run_append_grow (P := P) w t tyx ty ei z hu hei hzv ⟨b, 0, none⟩ n cap (cur.toList.take (l.length * sz)) (by rw [hfl.1, hl, hes]) holds a m.length capx cs (by rw [hf.1, hes]) hc (by omega) (by omega) (growslice_fits (by omega) hbytes)
        refine grown (cur.toList.take (l.length * sz)) cs cap _ hfl hf (by omega) rfl ?_ (by omega)
        rw [hr]
        simp
end
end Go.AM
end
section
namespace Go.AM
open Go.RowKit
set_option linter.unusedVariables false
set_option linter.unusedSimpArgs false
structure Bs where
  (n0 : Nat) (w0 : World) (Fa : Mem) (μ0 : Pm) (F0 : Mem) (lp : Option Nat) (wo : World) (dz : Bool)
structure St where
  (e : Env) (O : Objs) (K : Toks) (nx : Nat)
structure RelX (β : Bs) (lo : Nat) (μ : Pm) (F : Mem) (O : Objs) (K : Toks) (nx : Nat) (w : World) : Prop where
  s : RelS β.n0 β.w0 μ F O K nx w
  fa : ∀ a v, β.Fa a = some v → F a = some v
  fb : ∀ a v, F a = some v → a.block < β.n0 → β.Fa a = some v
  m0 : β.μ0.le μ
  f0 : ∀ a v, β.F0 a = some v → F a = some v
  lo0 : ∀ id, lo ≤ id → β.μ0 id = none
  lo1 : lo ≤ nx
  dzl : β.dz = true → 100 ≤ lo
def mark (D : Nat) : Deferred := { target := .collected D, args := #[] }
/-- what lies beside the cells: what lay there, the record of the loop whose round this is, the marks on the calls put off -/
structure Dm (β : Bs) (ds : List Deferred) (w : World) : Prop where
  ko : KeepsOthers β.wo w
  lp : ∀ l, β.lp = some l → ∃ r, β.wo.heap[l]? = some (.loop r)
  nr : β.dz = true ∨ β.lp.isSome = true → ds = []
  ms : ∃ Ds : List Nat, ds = Ds.map mark ∧ Ds.Nodup ∧ ∀ D ∈ Ds, (β.n0 ≤ D ∧ β.wo.heap.size ≤ D) ∧ w.heap[D]? = some (.deferred (some []))
theorem Dm.keep {β : Bs} {ds : List Deferred} {w w' : World} (h : Dm β ds w) (k : KeepsOthers w w') : Dm β ds w' := by
  obtain ⟨h1, h2, h6, Ds, h3, h4, h5⟩ := h
  exact ⟨h1.trans k, h2, h6, Ds, h3, h4, fun D hD => ⟨(h5 D hD).1, k.same D _ (h5 D hD).2 rfl⟩⟩
theorem keepsOthers_below {w w' : World} (h : Below w.heap.size w w') : KeepsOthers w w' := ⟨h.size, fun k o hk _ => (h.block k (Array.getElem?_eq_some_iff.1 hk).1).trans hk⟩
def Rel (β : Bs) (nt lo : Nat) (s : St) (a : Act) (w : World) : Prop := Dm β a.defers w ∧ ∃ μ F, RelE μ F nt s.e a.tmps ∧ RelX β lo μ F s.O s.K s.nx w
/-- no bound, whatever round -/
def Fw (ro : Option Nat) : Fence := { Fence.wide with round := ro }
theorem Fw_room (ro : Option Nat) (n : Nat) : (Fw ro).room n := fun _ h => by cases h
theorem stepsIn_Fw {ro : Option Nat} {P : Program} {m m' : Machine} : StepsIn (Machine.fenced P (Fw ro)) P m m' ↔ Steps P m m' := stepsIn_wide
theorem comesIn_Fw {ro : Option Nat} {P : Program} {m m' : Machine} {e : Ending} : ComesIn (Machine.fenced P (Fw ro)) P m m' e ↔ Comes P m m' e := comesIn_wide
theorem callsIn_Fw {ro : Option Nat} {n : Nat} {P : Program} {f : FuncId} {args : Array Value} {w : World} {R : Ending → World → Prop} : CallsIn (Fw ro) n P f args w R ↔ Calls P f args w R := callsIn_wide
theorem rowsIn_Fw {ro : Option Nat} {n : Nat} {P : Program} {row : String} {args : Array Value} {w : World} {R : Value → World → Prop} (h : Rows P row args w R) : RowsIn (Fw ro) n P row args w R :=
  fun c cs _ => let ⟨v, w', r, s⟩ := h c cs; ⟨v, w', r, stepsIn_Fw.2 s⟩
/-- an operation that is no defer is carried out in a round as everywhere -/
theorem wp_in {ro : Option Nat} {P : Program} {o : Oper} {a : Act} {w : World} {K : Act → World → Prop} {Q : Exit → Act → World → Prop} (hnd : ∀ c, o.op ≠ .defer c) (h : o.wp P a w K Q) : o.wpIn (Fw ro) 0 P a w K Q := by
  refine ⟨fun _ _ => trivial, ?_⟩
  show o.uponIn (Fw ro) 0 P a K Q ((o.semAt ro a.eval).run P w)
  rw [Oper.semAt_eq _ _ _ hnd]
  unfold Oper.wp at h
  generalize (execOp a.eval o).run P w = r at h
  cases r with
  | ok x w' =>
    cases x with
    | value v => exact h
    | skip => exact h
    | defer d => exact h
    | enter f args => exact ⟨fun h => (by cases h), callsIn_Fw.2 (Calls.mono h (fun e w'' he => by cases e <;> exact he))⟩
    | row r args => exact ⟨fun h => (by cases h), rowsIn_Fw h⟩
    | _ => exact False.elim h
  | halt x w' => cases x <;> exact h
/-- the list of a region's operations, the two forms side by side -/
def wpL (ro : Option Nat) (P : Program) (ops : Array Oper) (Q : Exit → Act → World → Prop) : List Oper → Act → World → Prop
  | [], a, w => Q .normal a w
  | o :: rest, a, w => if Region.wanted o (yielded ops a.tmps) then o.wp P a w (wpL ro P ops Q rest) Q ∨ o.wpIn (Fw ro) 0 P a w (wpL ro P ops Q rest) Q else wpL ro P ops Q rest (a.put o.dst undef) w
def nodef (l : List Oper) : Bool := l.all fun o => match o.op with
  | .defer _ => false
  | _ => true
theorem nodef_of {o : Oper} {l : List Oper} (h : nodef (o :: l) = true) : (∀ c, o.op ≠ .defer c) ∧ nodef l = true := by
  simp only [nodef, List.all_cons, Bool.and_eq_true] at h
  exact ⟨fun c hc => by rw [hc] at h; simp at h, h.2⟩
theorem wpL_in {ro : Option Nat} {P : Program} {ops : Array Oper} {Q : Exit → Act → World → Prop} : ∀ (l : List Oper), nodef l = true → ∀ a w, wpL ro P ops Q l a w → wpListIn (Fw ro) 0 P ops Q l a w
  | [], _, a, w, h => h
  | o :: l, hn, a, w, h => by
    obtain ⟨h1, h2⟩ := nodef_of hn
    have ih := wpL_in (ro := ro) (P := P) (ops := ops) (Q := Q) l h2
    unfold wpL at h
    unfold wpListIn
    split at h
    · rename_i hw
      rw [if_pos hw]
      rcases h with h | h
      · exact Oper.wpIn_mono ih (wp_in h1 h)
      · exact Oper.wpIn_mono ih h
    · rename_i hw
      rw [if_neg hw]
      exact ⟨fun _ _ => trivial, ih _ _ h⟩

/-- from the state s the code comes to Q -/
def W (P : Program) (nt lo : Nat) (c : Code) (s : St) (Q : Exit → St → Prop) : Prop := ∀ β a w, Rel β nt lo s a w → c.wpIn (Fw β.lp) 0 P (fun e a' w' => ∃ s', Q e s' ∧ Rel β nt lo s' a' w') a w
section
variable {P : Program} {nt lo : Nat} {s : St} {Q : Exit → St → Prop}
theorem W.mono {c : Code} {Q' : Exit → St → Prop} (h : W P nt lo c s Q) (hq : ∀ e s, Q e s → Q' e s) : W P nt lo c s Q' :=
  fun β a w hr => wpIn_mono (h β a w hr) fun e a' w' ⟨s', h1, h2⟩ => ⟨s', hq _ _ h1, h2⟩
theorem W_skip (h : Q .normal s) : W P nt lo .skip s Q := fun β a w hr => wpIn_skip ⟨s, h, hr⟩
theorem W_exit {id : Nat} (h : Q (.exit id) s) : W P nt lo (.exit id) s Q := fun β a w hr => wpIn_exit ⟨s, h, hr⟩
theorem W_ret (h : Q .ret s) : W P nt lo .ret s Q := fun β a w hr => wpIn_ret ⟨s, h, hr⟩
/-- behind a piece the next one -/
def thenQ (P : Program) (nt lo : Nat) (c : Code) (Q : Exit → St → Prop) : Exit → St → Prop
  | .normal, s => W P nt lo c s Q
  | e, s => Q e s
theorem W_seq {x y : Code} (h : W P nt lo x s (thenQ P nt lo y Q)) : W P nt lo (.seq x y) s Q := fun β a w hr =>
  wpIn_seq (wpIn_mono (h β a w hr) fun e a' w' ⟨s', h1, h2⟩ => by
    cases e with
    | normal => exact h1 β a' w' h2
    | _ => exact ⟨s', h1, h2⟩)
def blockQ (id : Nat) (Q : Exit → St → Prop) : Exit → St → Prop
  | .exit id', s => if id' = id then Q .normal s else Q (.exit id') s
  | e, s => Q e s
theorem W_block {id : Nat} {c : Code} (h : W P nt lo c s (blockQ id Q)) : W P nt lo (.block id c) s Q := fun β a w hr =>
  wpIn_block (wpIn_mono (h β a w hr) fun e a' w' ⟨s', h1, h2⟩ => by
    cases e with
    | exit id' =>
      simp only [Exit.inBlock, blockQ] at h1 ⊢
      split
      · rename_i he; rw [if_pos he] at h1; exact ⟨s', h1, h2⟩
      · rename_i he; rw [if_neg he] at h1; exact ⟨s', h1, h2⟩
    | _ => exact ⟨s', h1, h2⟩)
theorem Rel.ev {β : Bs} {a : Act} {w : World} (h : Rel β nt lo s a w) (x : Operand) : ∃ μ F, RelV F μ (ev s.e x) (a.eval x) := by
  obtain ⟨_, μ, F, h1, _⟩ := h
  exact ⟨μ, F, h1.ev x⟩
theorem W_cond {c : Operand} {b : Bool} {x y : Code} (hc : ev s.e c = .bool b) (ht : b = true → W P nt lo x s Q) (hf : b = false → W P nt lo y s Q) : W P nt lo (.cond c x y) s Q := fun β a w hr => by
  obtain ⟨μ, F, hv⟩ := hr.ev c
  rw [hc] at hv
  have hb : a.eval c = .bool b := by generalize a.eval c = cv at hv; cases hv; rfl
  exact wpIn_cond_split hb (fun h => ht h β a w hr) (fun h => hf h β a w hr)
/-- what is known may be forgotten -/
def St.le (s s' : St) (lo nt : Nat) : Prop := ∀ β a w, Rel β nt lo s a w → Rel β nt lo s' a w
theorem W.of_le {c : Code} {s s' : St} (hl : s.le s' lo nt) (h : W P nt lo c s' Q) : W P nt lo c s Q := fun β a w hr => h β a w (hl β a w hr)
theorem W.q_le {c : Code} {Q' : Exit → St → Prop} (h : W P nt lo c s Q) (hq : ∀ e s, Q e s → ∃ s', s.le s' lo nt ∧ Q' e s') : W P nt lo c s Q' := fun β a w hr =>
  wpIn_mono (h β a w hr) fun e a' w' ⟨s', h1, h2⟩ => by obtain ⟨s2, h3, h4⟩ := hq _ _ h1; exact ⟨s2, h4, h3 β a' w' h2⟩
/-- a loop: an invariant over any index, a measure -/
theorem W_loop {c : Code} {ι : Type} (I : ι → St) (m : ι → Nat) (i0 : ι) (h0 : s.le (I i0) lo nt) (round : ∀ i, W P nt lo c (I i) (fun e s' => match e with | .normal => ∃ i', m i' < m i ∧ s'.le (I i') lo nt | e => Q e s')) : W P nt lo (.loop c) s Q := fun β a w hr => by
  have hr0 : Rel β nt lo (I i0) a w := h0 β a w hr
  intro b k cs hro hb hr
  have key : ∀ n i, m i = n → ∀ a w, Rel β nt lo (I i) a w → ∃ e a' w', (∃ s', Q e s' ∧ Rel β nt lo s' a' w') ∧ ArrivesIn (Machine.fenced P (Fw β.lp)) P (lone (b.atR a (.code c :: .inLoop c :: k)) cs w) b k cs e a' w' := by
    intro n
    induction n using Nat.strongRecOn with
    | _ n ih =>
      intro i hn a w hi
      obtain ⟨e, a₁, w₁, ⟨s', hq, hr1⟩, harr⟩ := round i β a w hi b (.inLoop c :: k) cs hro hb hr
      cases e with
      | normal =>
        obtain ⟨i', hlt, hle⟩ := hq
        obtain ⟨e₂, a₂, w₂, hq₂, harr₂⟩ := ih (m i') (hn ▸ hlt) i' rfl a₁ w₁ (hle β a₁ w₁ hr1)
        exact ⟨e₂, a₂, w₂, hq₂, .of_steps (StepsIn.trans harr (.one (fenced_calm hb hr rfl) stepR_inLoop)) harr₂⟩
      | exit id => exact ⟨_, a₁, w₁, ⟨s', hq, hr1⟩, .pass (x := .inLoop c) rfl (fun _ _ => .inl (by simp)) harr⟩
      | goto l => exact ⟨_, a₁, w₁, ⟨s', hq, hr1⟩, .pass (x := .inLoop c) rfl (fun _ _ => .inl (by simp)) harr⟩
      | ret => exact ⟨_, a₁, w₁, ⟨s', hq, hr1⟩, .pass (x := .inLoop c) rfl (fun _ _ => .inl (by simp)) harr⟩
      | panic ch => exact ⟨_, a₁, w₁, ⟨s', hq, hr1⟩, .pass (x := .inLoop c) rfl (fun _ _ => .inl (by simp)) harr⟩
      | outgrown => exact ⟨_, a₁, w₁, ⟨s', hq, hr1⟩, .pass (x := .inLoop c) rfl (fun _ _ => .inl (by simp)) harr⟩
  obtain ⟨e, a', w', hq, harr⟩ := key _ i0 rfl a w hr0
  exact ⟨e, a', w', hq, .of_steps (.one (fenced_calm hb hr rfl) stepR_loop) harr⟩

/-! ### a function's answer -/
/-- the contract of a call on plain values: the answer is a plain value, nothing that was there is written -/
def Callable (P : Program) (f : FuncId) : Prop := ∃ fn, P.funcs[f]? = some fn ∧ fn.body.isSome = true ∧ (fn.name == "runtime.NumGoroutine") = false
def Ok (P : Program) (f : FuncId) (args : List AV) (r : AV) : Prop := Callable P f ∧ ∀ (Fa : Mem) (w : World) (cargs : Array Value), (∀ a v, Fa a = some v → w.cell? a = some v) → RelA Pm0 Fa args cargs →
  Calls P f cargs w fun e w' => ∃ cv F', e = .returned cv ∧ RelV F' Pm0 r cv ∧ Below w.heap.size w w' ∧ (∀ a v, Fa a = some v → F' a = some v) ∧ (∀ a v, F' a = some v → a.block < w.heap.size → Fa a = some v) ∧ ∀ a v, F' a = some v → w'.cell? a = some v
def enum : Nat → List AV → Env
  | _, [] => []
  | k, v :: l => (k, v) :: enum (k + 1) l
theorem get_enum : ∀ (l : List AV) (k t : Nat), get (enum k l) t = if k ≤ t then l.getD (t - k) .und else .und
  | [], k, t => by simp [enum, get]
  | v :: l, k, t => by
    rw [enum, get_cons, get_enum l (k + 1) t]
    by_cases h : k = t
    · subst h; simp
    · rw [if_neg h]
      by_cases h2 : k + 1 ≤ t
      · rw [if_pos h2, if_pos (by omega)]
        have : t - k = (t - (k + 1)) + 1 := by omega
        rw [this]; simp
      · rw [if_neg h2, if_neg (by omega)]
/-- the results, out of the state -/
def resOne (T : Tab) (s : St) : ResultVar → Option (Prop × AV)
  | .tmp t => some (True, get s.e t)
  | .cell a t => aLoad T s.O t (get s.e a)
def resList (T : Tab) (s : St) : List ResultVar → Option (Prop × List AV)
  | [] => some (True, [])
  | r :: rs => match resOne T s r with
    | some (c, v) => match resList T s rs with
      | some (d, l) => some (c ∧ d, v :: l)
      | none => none
    | none => none
def pack : List AV → AV
  | [v] => v
  | l => .tup l
theorem run_resList {T : Tab} (hT : Tab.Ok P T) {μ : Pm} {F : Mem} {n0 nx : Nat} {w0 w : World} {tmps : Array Value} {s : St} (hE : RelE μ F nt s.e tmps) (hO : RelO n0 w0 μ F s.O nx w) : ∀ (rs : List ResultVar) (c : Prop) (l : List AV), resList T s rs = some (c, l) → c →
    ∃ vs : List Value, (rs.mapM fun r => (match r with | .tmp t => pure (tmps.getD t undef) | .cell a t => do loadVar t (← asAddr (tmps.getD a undef)) : Sem Value)).run P w = .ok vs w ∧ vs.length = l.length ∧ ∀ (j : Nat) v, l[j]? = some v → ∃ cv, vs[j]? = some cv ∧ RelV F μ v cv
  | [], c, l, h, hc => by
    simp only [resList, Option.some.injEq, Prod.mk.injEq] at h
    obtain ⟨_, rfl⟩ := h
    exact ⟨[], rfl, rfl, fun j v hj => by simp at hj⟩
  | r :: rs, c, l, h, hc => by
    simp only [resList] at h
    split at h
    · rename_i c1 v1 h1
      split at h
      · rename_i d l1 h2
        simp only [Option.some.injEq, Prod.mk.injEq] at h
        obtain ⟨rfl, rfl⟩ := h
        obtain ⟨vs, hr, hl, hv⟩ := run_resList hT hE hO rs d l1 h2 hc.2
        have one : ∃ cv, ((match r with | .tmp t => pure (tmps.getD t undef) | .cell a t => do loadVar t (← asAddr (tmps.getD a undef)) : Sem Value)).run P w = .ok cv w ∧ RelV F μ v1 cv := by
          cases r with
          | tmp t =>
            simp only [resOne, Option.some.injEq, Prod.mk.injEq] at h1
            obtain ⟨_, rfl⟩ := h1
            exact ⟨_, rfl, hE.rel t⟩
          | cell a t =>
            obtain ⟨cv, k1, k2⟩ := load_yl hT hO (hE.rel a) h1 hc.1
            refine ⟨cv, ?_, k2⟩
            have hp : ∃ ad, tmps.getD a undef = .pointer (some ad) := by
              cases hq : tmps.getD a undef with
              | pointer p =>
                cases p with
                | some ad => exact ⟨ad, rfl⟩
                | none => rw [hq] at k1; simp [Instr.loadAt, Instr.sureAddr] at k1
              | _ => rw [hq] at k1; simp [Instr.loadAt, Instr.sureAddr] at k1
            obtain ⟨ad, hp⟩ := hp
            rw [hp] at k1
            simpa [Instr.loadAt, Instr.sureAddr, asAddr, hp] using k1
        obtain ⟨cv, k1, k2⟩ := one
        refine ⟨cv :: vs, ?_, by simp [hl], fun j v hj => ?_⟩
        · rw [List.mapM_cons]
          simp only [Sem.run_bind, k1, Result.andThen_ok, hr, Sem.run_pure]
        · cases j with
          | zero => simp at hj; subst hj; exact ⟨cv, rfl, k2⟩
          | succ j => exact hv j v (by simpa using hj)
      · cases h
    · cases h
theorem run_results {T : Tab} (hT : Tab.Ok P T) {μ : Pm} {F : Mem} {n0 nx : Nat} {w0 w : World} {tmps : Array Value} {s : St} (hE : RelE μ F nt s.e tmps) (hO : RelO n0 w0 μ F s.O nx w) {fn : Func} {c : Prop} {l : List AV} (h : resList T s fn.results.toList = some (c, l)) (hc : c) :
    ∃ cv, (results fn tmps).run P w = .ok cv w ∧ RelV F μ (pack l) cv := by
  obtain ⟨vs, hr, hl, hv⟩ := run_resList hT hE hO fn.results.toList c l h hc
  have hrun : (fn.results.mapM fun r => (match r with | .tmp t => pure (tmps.getD t undef) | .cell a t => do loadVar t (← asAddr (tmps.getD a undef)) : Sem Value)).run P w = .ok vs.toArray w := by
    rw [Array.mapM_eq_mapM_toList, Sem.run_map, hr]; rfl
  unfold results
  rw [Sem.run_bind]
  refine ⟨if h : vs.toArray.size = 1 then vs.toArray[0] else .tuple vs.toArray, ?_, ?_⟩
  · have := hrun
    refine Eq.trans (congrArg (fun z => Result.andThen z _) this) ?_
    rfl
  · match l, hl, hv with
    | [], hl, hv =>
      have : vs = [] := List.eq_nil_of_length_eq_zero hl
      subst this
      exact .tup rfl (fun j v hj => by simp at hj)
    | [v], hl, hv =>
      obtain ⟨x, rfl⟩ := List.length_eq_one_iff.1 hl
      obtain ⟨cv, h1, h2⟩ := hv 0 v rfl
      simp at h1; subst h1
      exact h2
    | v1 :: v2 :: l, hl, hv =>
      have hne : ¬ (vs.toArray.size = 1) := by simp [hl]
      rw [dif_neg hne]
      refine .tup (by simp [hl]) (fun j v hj => ?_)
      obtain ⟨cv, h1, h2⟩ := hv j v hj
      rw [Array.getD_eq_getD_getElem?, List.getElem?_toArray, h1]
      exact h2
end
end Go.AM
end
section
namespace Go.AM
open Go.RowKit
set_option linter.unusedVariables false
set_option linter.unusedSimpArgs false
/-- values handed on: what may still be appended to is a plain tree for others -/
def demC : AV → AV
  | .app _ l => .ro l
  | .nils => .ro []
  | v => v
def grC : AV → Bool
  | .yl _ | .int .. | .bool _ | .str _ | .nilp | .nils | .nilf | .ro _ | .rptr _ => true
  | .fn _ [] [] => true
  | _ => false
def demA : AV → AV
  | .agg l => .agg (l.map demC)
  | .fn f fs cs => .fn f (fs.map demC) (cs.map demC)
  | v => demC v
def grA : AV → Bool
  | .agg l => l.all grC
  | .fn _ fs cs => fs.all grC && cs.all grC
  | v => grC v
def dem : AV → AV
  | .tup l => .tup (l.map demA)
  | v => demA v
def gr : AV → Bool
  | .tup l => l.all grA
  | v => grA v
section
variable {P : Program} {nt lo : Nat} {s : St} {Q : Exit → St → Prop} {F : Mem} {μ : Pm}
theorem demC_rel {v : AV} {cv : Value} (h : RelV F μ v cv) (hg : grC (demC v) = true) : RelV F Pm0 (demC v) cv := by
  cases h with
  | app h _ _ _ => exact h
  | int k n => exact .int k n
  | bool b => exact .bool b
  | str s => exact .str s
  | nilp => exact .nilp
  | nils => exact .ro0
  | nilf => exact .nilf
  | yl l => exact .yl l
  | ro0 => exact .ro0
  | ro cv hz hc hr hn hm ha => exact .ro cv hz hc hr hn hm ha
  | rptr cv hc hr => exact .rptr cv hc hr
  | @fn _ f fs cs A C hA hC ha hc =>
    cases fs with
    | cons x l => cases cs <;> simp [demC, grC] at hg
    | nil =>
      cases cs with
      | cons x l => simp [demC, grC] at hg
      | nil => exact .fn hA hC (fun j v hj => by simp at hj) (fun j v hj => by simp at hj)
  | und v => simp [demC, grC] at hg
  | ptr h => simp [demC, grC] at hg
  | row h hn hm ha => simp [demC, grC] at hg
  | agg hA h => simp [demC, grC] at hg
  | tup hA h => simp [demC, grC] at hg
  | gd h h2 => simp [demC, grC] at hg
  | pin h => simp [demC, grC] at hg
theorem demA_rel {v : AV} {cv : Value} (h : RelV F μ v cv) (hg : grA (demA v) = true) : RelV F Pm0 (demA v) cv := by
  have each : ∀ {l : List AV} {A : Array Value}, (∀ (j : Nat) v, l[j]? = some v → RelV F μ v (A.getD j undef)) → (l.map demC).all grC = true → ∀ (j : Nat) v, (l.map demC)[j]? = some v → RelV F Pm0 v (A.getD j undef) := by
    intro l A h hg j v hj
    rw [List.getElem?_map] at hj
    cases hq : l[j]? with
    | none => simp [hq] at hj
    | some u =>
      simp [hq] at hj; subst hj
      refine demC_rel (h j u hq) ?_
      simp only [List.all_map, List.all_eq_true] at hg
      exact hg u (List.mem_of_getElem? hq)
  cases v with
  | agg l =>
    cases h with
    | agg hA h => exact .agg (by simp [hA]) (each h hg)
  | fn f fs cs =>
    simp only [demA, grA, Bool.and_eq_true] at hg
    cases h with
    | fn hA hC ha hc => exact .fn (by simp [hA]) (by simp [hC]) (each ha hg.1) (each hc hg.2)
  | _ => exact demC_rel h hg
theorem dem_rel {v : AV} {cv : Value} (h : RelV F μ v cv) (hg : gr (dem v) = true) : RelV F Pm0 (dem v) cv := by
  by_cases ha : ∃ l, v = .tup l
  · obtain ⟨l, rfl⟩ := ha
    cases h with
    | @tup _ _ A hA h =>
      refine .tup (by simp [hA]) (fun j v hj => ?_)
      rw [List.getElem?_map] at hj
      cases hq : l[j]? with
      | none => simp [hq] at hj
      | some u =>
        simp [hq] at hj; subst hj
        refine demA_rel (h j u hq) ?_
        simp only [dem, gr, List.all_map, List.all_eq_true] at hg
        exact hg u (List.mem_of_getElem? hq)
  · have hd : dem v = demA v := by cases v <;> first | rfl | exact absurd ⟨_, rfl⟩ ha
    rw [hd] at hg ⊢
    refine demA_rel h ?_
    have : ∀ u, (∀ l, u ≠ .tup l) → gr u = grA u := by intro u hu; cases u <;> first | rfl | exact absurd rfl (hu _)
    rwa [this (demA v) (by intro l hl; cases v <;> simp [demA, demC] at hl; exact ha ⟨_, rfl⟩)] at hg
/-- cells stay, the others may turn -/
theorem RelX.oth {β : Bs} {lo : Nat} {O : Objs} {K : Toks} {nx : Nat} {w w' : World} (h : RelX β lo μ F O K nx w) (hc : ∀ (k : Nat) (o : Obj), w.heap[k]? = some o → o.isCells = true → w'.heap[k]? = some o) (hb : Below β.n0 w w') : RelX β lo μ F O K nx w' := by
  refine ⟨⟨⟨h.s.o.below.trans hb, Nat.le_trans h.s.o.base hb.size, h.s.o.fresh, fun id o ho => ?_, h.s.o.apart, fun a v q => ?_, h.s.o.froz⟩, ⟨fun id ty sz n hid => ?_, h.s.t.apart⟩⟩, h.fa, h.fb, h.m0, h.f0, h.lo0, h.lo1, h.dzl⟩
  · obtain ⟨b, cs, cur, k1, k2, k3, k4⟩ := h.s.o.obj id o ho
    exact ⟨b, cs, cur, k1, k2, hc _ _ k3 rfl, k4⟩
  · have hq := h.s.o.mem a v q
    obtain ⟨o, h1, h2⟩ := cells_of_cell hq
    rw [World.cell?_of_block (w := w) (w' := w') ((hc _ _ h1 h2).trans h1.symm)]
    exact hq
  · obtain ⟨cv, k1, k2, k3⟩ := h.s.t.tok id ty sz n hid
    refine ⟨cv, k1, k2, ?_⟩
    rcases k3 with k3 | ⟨b, cap, cur, e1, e2, e20, e3, e4, e5, e6, e7⟩
    · exact .inl k3
    · exact .inr ⟨b, cap, cur, e1, e2, e20, e3, e4, hc _ _ e5 rfl, e6, e7⟩
theorem leaves_marks {fn : Func} {tmps : Array Value} {R : Ending → World → Prop} {β : Bs} {lo : Nat} {O : Objs} {K : Toks} {nx : Nat} : ∀ (Ds : List Nat) (w : World), Ds.Nodup → (∀ D ∈ Ds, (β.n0 ≤ D ∧ β.wo.heap.size ≤ D) ∧ w.heap[D]? = some (.deferred (some []))) → RelX β lo μ F O K nx w → KeepsOthers β.wo w →
    (∀ w', RelX β lo μ F O K nx w' → KeepsOthers β.wo w' → ∃ v, (results fn tmps).run P w' = .ok v w' ∧ R (.returned v) w') → LeavesInM Fence.wide 0 P fn tmps R (Ds.map mark) .returning w
  | [], w, _, _, hX, hk, h => h w hX hk
  | D :: Ds, w, hn, hD, hX, hko, h => by
    have h0 := hD D (by simp)
    have hnd := List.nodup_cons.1 hn
    refine ⟨by simp, .inl ⟨D, _, rfl, run_takeDeferred h0.2, leaves_marks Ds _ hnd.2 (fun E hE => ⟨(hD E (by simp [hE])).1, ?_⟩) (hX.oth (fun k o hk ho => ?_) ?_) ⟨Nat.le_trans hko.size (grownBy_putObj' w D _).size, fun k o hk ho => ?_⟩ h⟩⟩
    · exact (World.putObj_heap_other (by rintro rfl; exact hnd.1 hE)).trans (hD E (by simp [hE])).2
    · exact (World.putObj_heap_other (by rintro rfl; rw [h0.2] at hk; cases hk; cases ho)).trans hk
    · exact (Below.refl _ w).grown (grownBy_putObj' w D _) hX.s.o.base (fun k e => by cases e; exact h0.1.1)
    · refine (World.putObj_heap_other ?_).trans (hko.same k o hk ho)
      rintro rfl
      have := (Array.getElem?_eq_some_iff.1 hk).1
      have := h0.1.2
      omega
/-- what a body's walk is to come to -/
def Ends (T : Tab) (fn : Func) (r : AV) (e : Exit) (s : St) : Prop := (e = .normal ∨ e = .ret) ∧ ∃ c l, resList T s fn.results.toList = some (c, l) ∧ c ∧ dem (pack l) = r ∧ gr r = true
theorem Ok.of_W {T : Tab} (hT : Tab.Ok P T) {f : FuncId} {fn : Func} (hf : P.funcs[f]? = some fn) {c : Code} (hb : fn.body = some c) {args : List AV} {r : AV} (hnm : (fn.name == "runtime.NumGoroutine") = false) (hal : args.length ≤ fn.ntmps)
    (h : W P fn.ntmps 0 c ⟨enum 0 args, [], [], 0⟩ (Ends T fn r)) : Ok P f args r := by
  refine ⟨⟨fn, hf, by rw [hb]; rfl, hnm⟩, ?_⟩
  intro Fa w cargs hFa hA
  have hRel : Rel ⟨w.heap.size, w, Fa, Pm0, Fa, none, w, false⟩ fn.ntmps 0 ⟨enum 0 args, [], [], 0⟩ { tmps := cargs ++ Array.replicate (fn.ntmps - cargs.size) undef, defers := [] } w := by
    refine ⟨⟨.refl _, fun l h => (by cases h), fun _ => rfl, [], rfl, List.nodup_nil, fun D h => (by cases h)⟩, Pm0, Fa, ⟨?_, fun t => ?_⟩, ⟨⟨⟨Below.refl _ _, Nat.le_refl _, fun _ _ => rfl, fun id o ho => by simp [lk] at ho, fun id id' o o' b cs sz b' cs' sz' _ ho => by simp [lk] at ho, hFa, fun id o b cs sz ho => by simp [lk] at ho⟩, ⟨fun id ty sz n hid => by simp [lt] at hid, fun id id' ty sz ty' sz' n n' b b' m m' cap cap' _ hid => by simp [lt] at hid⟩⟩, fun _ _ q => q, fun _ _ q _ => q, Pm.le.refl _, fun _ _ q => q, fun _ _ => rfl, Nat.le_refl _, fun h => (by cases h)⟩⟩
    · simp only [Array.size_append, Array.size_replicate, hA.1]; omega
    · show RelV Fa Pm0 (get (enum 0 args) t) _
      rw [get_enum, if_pos (Nat.zero_le _), Nat.sub_zero]
      by_cases ht : t < args.length
      · have := hA.2 t _ (List.getElem?_eq_getElem ht)
        have hts : t < cargs.size := by rw [hA.1]; exact ht
        rw [List.getD_eq_getElem?_getD, List.getElem?_eq_getElem ht]
        rw [Array.getD_eq_getD_getElem?] at this ⊢
        rw [Array.getElem?_append_left hts]
        exact this
      · rw [List.getD_eq_getElem?_getD, List.getElem?_eq_none (by omega)]
        exact .und _
  refine callsIn_wide.1 (callsIn_of_wp_marks (F := Fence.wide) (n := 0) hf hb trivial (wpIn_mono (h _ _ w hRel) ?_))
  rintro e a' w' ⟨s', ⟨he, cnd, l, hres, hc, rfl, hg⟩, ⟨hko, _, _, Ds, hds, hnd, hD⟩, μ, F, hE, hX⟩
  have fin : LeavesInM Fence.wide 0 P fn a'.tmps (fun e w' => ∃ cv F', e = .returned cv ∧ RelV F' Pm0 (dem (pack l)) cv ∧ Below w.heap.size w w' ∧ (∀ a v, Fa a = some v → F' a = some v) ∧ (∀ a v, F' a = some v → a.block < w.heap.size → Fa a = some v) ∧ ∀ a v, F' a = some v → w'.cell? a = some v) a'.defers .returning w' := by
    rw [hds]
    refine leaves_marks Ds w' hnd hD hX hko (fun w2 hX2 _ => ?_)
    obtain ⟨cv, hrun, hv⟩ := run_results hT hE hX2.s.o hres hc
    exact ⟨cv, hrun, cv, F, rfl, dem_rel hv hg, hX2.s.o.below, hX2.fa, hX2.fb, hX2.s.o.mem⟩
  rcases he with rfl | rfl <;> exact fin
end
end Go.AM
end
section
namespace Go.AM
open Go.RowKit
set_option linter.unusedVariables false
set_option linter.unusedSimpArgs false
def strip : AV → AV
  | .gd _ v => strip v
  | .pin _ v => v
  | v => v
def sg : AV → Prop
  | .gd b v => b = true ∧ sg v
  | _ => True
def sgs : List AV → Prop
  | [] => True
  | .gd b v :: r => (b = true ∧ sg v) ∧ sgs r
  | _ :: r => sgs r
theorem sgs_cons {v : AV} {r : List AV} (h : sgs (v :: r)) : sg v ∧ sgs r := by
  cases v <;> simp only [sgs] at h <;> first | exact ⟨trivial, h⟩ | exact h
theorem sgs_mem : ∀ {l : List AV}, sgs l → ∀ v ∈ l, sg v
  | [], _, v, hv => by cases hv
  | u :: r, h, v, hv => by
    obtain ⟨h1, h2⟩ := sgs_cons h
    rcases List.mem_cons.1 hv with rfl | hv
    · exact h1
    · exact sgs_mem h2 v hv
theorem RelV.strip {F : Mem} {μ : Pm} {v : AV} {cv : Value} (h : RelV F μ v cv) (hs : sg v) : RelV F μ (strip v) cv := by
  induction h with
  | gd h h2 ih => exact ih hs.1 hs.2
  | pin h ih => exact h
  | und v => exact .und v
  | int k n => exact .int k n
  | bool b => exact .bool b
  | str s => exact .str s
  | nilp => exact .nilp
  | nils => exact .nils
  | nilf => exact .nilf
  | yl l => exact .yl l
  | ptr h => exact .ptr h
  | row h hn hm ha => exact .row h hn hm ha
  | ro0 => exact .ro0
  | ro cv hz hc hr hn hm ha _ => exact .ro cv hz hc hr hn hm ha
  | rptr cv hc hr _ => exact .rptr cv hc hr
  | fn hA hC ha hc _ _ => exact .fn hA hC ha hc
  | agg hA h _ => exact .agg hA h
  | tup hA h _ => exact .tup hA h
  | app h ht hl he _ => exact .app h ht hl he
def apick (cb : Bool) (va vb : AV) : Option (Prop × AV) :=
  match strip va, strip vb with
  | .bool x, .bool y => some ((cb = true → sg va) ∧ (cb = false → sg vb), .bool (bif cb then x else y))
  | .int k x, .int k' y => bif kindEq k k' then some ((cb = true → sg va) ∧ (cb = false → sg vb), .int k (bif cb then x else y)) else none
  | _, _ => none
/-- what an operation yields: of values under a condition, too -/
def ave (T : Tab) (O : Objs) (e : Operand → AV) (op : Op) : Option (Prop × AV) :=
  match op with
  | .pick c a b => match strip (e c) with
    | .bool cb => match apick cb (e a) (e b) with
      | some (p, v) => some (sg (e c) ∧ p, v)
      | none => none
    | _ => none
  | op => match aval T O (fun x => strip (e x)) op with
    | some (p, v) => some (sgs (op.operands.toList.map e) ∧ p, v)
    | none => none
theorem aval_congr {T : Tab} {O : Objs} {e e' : Operand → AV} {op : Op} (h : ∀ x ∈ op.operands, e x = e' x) : aval T O e op = aval T O e' op := by
  have mp : ∀ xs : List Operand, (∀ x ∈ xs, e x = e' x) → xs.map e = xs.map e' := fun xs hx => List.map_congr_left hx
  cases op <;> simp only [Op.operands] at h <;> simp only [aval]
  case build t ps =>
    congr 1
    exact List.map_congr_left (fun q hq => by rw [h q.2 (by simp; exact ⟨q.1, by simpa using hq⟩)])
  case makeFunc fn fs cs =>
    cases fn <;> simp only []
    rw [mp _ (fun x hx => h x (by simp; exact .inl (by simpa using hx))), mp _ (fun x hx => h x (by simp; exact .inr (by simpa using hx)))]
  case call c =>
    obtain ⟨callee, args, ats⟩ := c
    have ha : args.toList.map e = args.toList.map e' := mp _ (fun x hx => h x (by simp [Call.operands]; exact .inr (by simpa using hx)))
    cases callee <;> simp only []
    rename_i b
    cases b <;> simp only [ha]
    split
    · rename_i x t ts hx ht
      have hm : x ∈ args := by have : x ∈ args.toList := by rw [hx]; simp
                               simpa using this
      rw [h x (by simp [Call.operands, hm])]
    · rfl
  all_goals first | rfl | simp_all
section
variable {P : Program} {T : Tab} {nt lo : Nat} {s : St} {Q : Exit → St → Prop} {F : Mem} {μ : Pm} {n0 nx : Nat} {w0 w : World} {O : Objs} {e ρ : Operand → AV}
theorem ave_sound (hT : Tab.Ok P T) {e : Operand → AV} {ρ : Operand → Value} (hE : ∀ x, RelV F μ (e x) (ρ x)) (hO : RelO n0 w0 μ F O nx w) (o : Oper) {c : Prop} {v : AV} (h : ave T O e o.op = some (c, v)) (hc : c) :
    ∃ cv, (execOp ρ o).run P w = .ok (.value cv) w ∧ RelV F μ v cv := by
  by_cases hp : ∃ x a b, o.op = .pick x a b
  · obtain ⟨x, a, b, hp⟩ := hp
    rw [hp] at h
    simp only [ave] at h
    split at h
    · rename_i cb hcb
      split at h
      · rename_i p v' hv'
        simp only [Option.some.injEq, Prod.mk.injEq] at h
        obtain ⟨rfl, rfl⟩ := h
        have hx := (hE x).strip hc.1
        rw [hcb] at hx
        have hxv : ρ x = .bool cb := by generalize ρ x = cx at hx; cases hx; rfl
        have hrun : (execOp ρ o).run P w = .ok (.value (if cb then ρ a else ρ b)) w := by
          obtain ⟨dst, op, ty, pos, after, g⟩ := o
          dsimp only at hp; subst hp
          simp only [execOp, Sem.run_bind, hxv, asBool, Sem.run_pure, Result.andThen_ok]
        refine ⟨_, hrun, ?_⟩
        have hpc := hc.2
        unfold apick at hv'
        split at hv'
        · rename_i x1 y1 h1 h2
          simp only [Option.some.injEq, Prod.mk.injEq] at hv'
          obtain ⟨rfl, rfl⟩ := hv'
          cases cb with
          | true => have := (hE a).strip (hpc.1 rfl); rw [h1] at this; exact this
          | false => have := (hE b).strip (hpc.2 rfl); rw [h2] at this; exact this
        · rename_i k x1 k' y1 h1 h2
          cases hk : kindEq k k' <;> rw [hk] at hv' <;> simp only [cond_true, cond_false, reduceCtorEq] at hv'
          obtain rfl := kindEq_eq hk
          simp only [Option.some.injEq, Prod.mk.injEq] at hv'
          obtain ⟨rfl, rfl⟩ := hv'
          cases cb with
          | true => have := (hE a).strip (hpc.1 rfl); rw [h1] at this; exact this
          | false => have := (hE b).strip (hpc.2 rfl); rw [h2] at this; exact this
        · cases hv'
      · cases h
    · cases h
  · have h' : (match aval T O (fun x => strip (e x)) o.op with
      | some (p, v) => some (sgs (o.op.operands.toList.map e) ∧ p, v)
      | none => none) = some (c, v) := by
      generalize o.op = op at hp h ⊢
      cases op <;> first | exact h | exact absurd ⟨_, _, _, rfl⟩ hp
    split at h'
    · rename_i p v' hv'
      simp only [Option.some.injEq, Prod.mk.injEq] at h'
      obtain ⟨rfl, rfl⟩ := h'
      classical
      have hs := sgs_mem hc.1
      let e' : Operand → AV := fun x => if sg (e x) then strip (e x) else .und
      have hE' : ∀ x, RelV F μ (e' x) (ρ x) := by
        intro x
        show RelV F μ (if sg (e x) then strip (e x) else .und) (ρ x)
        split
        · rename_i hx; exact (hE x).strip hx
        · exact .und _
      have hcg : aval T O e' o.op = some (p, v') := by
        rw [← hv']
        refine aval_congr (fun x hx => ?_)
        show (if sg (e x) then strip (e x) else .und) = strip (e x)
        rw [if_pos (hs _ (List.mem_map.2 ⟨x, by simpa using hx, rfl⟩))]
      exact aval_sound hT hE' hO o hcg hc.2
    · cases h'

/-- it yields v -/
def Av (T : Tab) (O : Objs) (e : Operand → AV) (op : Op) (v : AV) : Prop := ∃ c, ave T O e op = some (c, v) ∧ c
/-- the list of a region's operations that are left -/
def WL (P : Program) (nt lo : Nat) (ops : Array Oper) (l : List Oper) (s : St) (Q : Exit → St → Prop) : Prop := ∀ β a w, Rel β nt lo s a w → wpL β.lp P ops (fun e a' w' => ∃ s', Q e s' ∧ Rel β nt lo s' a' w') l a w
theorem wpIn_region_l {ro : Option Nat} {P : Program} {id : Nat} {l : List Oper} {Q : Exit → Act → World → Prop} {a : Act} {w : World} (hnd : nodef l = true) (h : wpL ro P l.toArray Q l a w) : (Code.region id l.toArray false).wpIn (Fw ro) 0 P Q a w := by
  refine wpIn_region ?_
  have e := wpOpsIn_eq_wpListIn (F := Fw ro) (n := 0) (P := P) (ops := l.toArray) (Q := Q) l 0 (fun j => by simp)
  have e2 : List.range l.toArray.size = List.range' 0 l.length := by simp [List.range_eq_range']
  rw [e2, e]
  exact wpL_in l hnd _ _ h
theorem W_region {id : Nat} {l : List Oper} (hnd : nodef l = true) (h : WL P nt lo l.toArray l s Q) : W P nt lo (.region id l.toArray false) s Q := fun β a w hr => wpIn_region_l hnd (h β a w hr)
theorem WL_nil {ops : Array Oper} (h : Q .normal s) : WL P nt lo ops [] s Q := fun β a w hr => ⟨s, h, hr⟩
theorem Rel.put {β : Bs} {a : Act} {w' : World} (hd : Dm β a.defers w') {d : Option Nat} {v : AV} {cv : Value} (hE : RelE μ F nt s.e a.tmps) {O' : Objs} {K' : Toks} {nx' : Nat} (hv : RelV F μ v cv) (hX : RelX β lo μ F O' K' nx' w') : Rel β nt lo ⟨wr nt s.e d v, O', K', nx'⟩ (a.put d cv) w' :=
  ⟨by cases d <;> exact hd, μ, F, hE.put hv, hX⟩
theorem wanted_none {o : Oper} (hg : o.guard = none) (y : Nat → Option Bool) : Region.wanted o y = true := by simp [Region.wanted, hg]
theorem WL_val (hT : Tab.Ok P T) {ops : Array Oper} {o : Oper} {rest : List Oper} {c : Prop} {v : AV} (hg : o.guard = none) (h : ave T s.O (ev s.e) o.op = some (c, v)) (hc : c)
    (hn : WL P nt lo ops rest { s with e := wr nt s.e o.dst v } Q) : WL P nt lo ops (o :: rest) s Q := by
  intro β a w hr
  obtain ⟨hd, μ, F, hE, hX⟩ := hr
  obtain ⟨cv, hrun, hv⟩ := ave_sound hT (fun x => hE.ev x) hX.s.o o h hc
  unfold wpL
  rw [wanted_none hg, if_pos rfl]
  left
  unfold Oper.wp
  rw [hrun]
  exact hn β _ w (Rel.put hd hE hv hX)
/-- the condition of a guarded operation -/
def gcond : Bool → AV → Option Bool
  | true, .bool b => some b
  | false, .bool b => some (!b)
  | true, .gd g (.bool b) => some (g && b)
  | false, .gd g (.bool b) => some (g && !b)
  | _, _ => none
theorem gcond_spec {want : Bool} {u : AV} {g : Bool} {cv : Value} (h : gcond want u = some g) (hv : RelV F μ u cv) : ((match (some cv : Option Value) with | some (.bool b) => some b | _ => none) == some want) = g := by
  unfold gcond at h
  split at h
  · cases hv
    simp only [Option.some.injEq] at h
    subst h
    rename_i b; cases b <;> rfl
  · cases hv
    simp only [Option.some.injEq] at h
    subst h
    rename_i b; cases b <;> rfl
  · rename_i g' b
    simp only [Option.some.injEq] at h
    subst h
    cases hv with
    | gd h1 h2 =>
      cases g' with
      | true => have := h1 rfl; cases this; cases b <;> rfl
      | false => rw [h2 rfl]; cases b <;> rfl
  · rename_i g' b
    simp only [Option.some.injEq] at h
    subst h
    cases hv with
    | gd h1 h2 =>
      cases g' with
      | true => have := h1 rfl; cases this; cases b <;> rfl
      | false => rw [h2 rfl]; cases b <;> rfl
  · cases h
theorem wanted_gcond {ops : Array Oper} {o : Oper} {j : Nat} {want g : Bool} {d : Nat} {a : Act} (hg : o.guard = some (j, want)) (hd : (ops[j]?).bind (·.dst) = some d) (hdn : Nat.blt d nt = true) (hE : RelE μ F nt s.e a.tmps) (h : gcond want (get s.e d) = some g) :
    Region.wanted o (yielded ops a.tmps) = g := by
  have hlt : d < a.tmps.size := by rw [hE.size]; simpa [Nat.blt_eq] using hdn
  have hv := hE.rel d
  have hget : a.tmps[d]? = some (a.tmps.getD d undef) := by simp [Array.getD, hlt]
  have := gcond_spec h hv
  unfold Region.wanted yielded
  rw [hg]
  dsimp only
  rw [hd, Option.bind_some, hget]
  exact this
theorem WL_valg (hT : Tab.Ok P T) {ops : Array Oper} {o : Oper} {rest : List Oper} {v : AV} {j d : Nat} {want g : Bool} (hg : o.guard = some (j, want)) (hd : (ops[j]?).bind (·.dst) = some d) (hdn : Nat.blt d nt = true) (hgc : gcond want (get s.e d) = some g)
    (h : g = true → Av T s.O (ev s.e) o.op v) (hn : WL P nt lo ops rest { s with e := wr nt s.e o.dst (.gd g v) } Q) : WL P nt lo ops (o :: rest) s Q := by
  intro β a w hr
  obtain ⟨hdf, μ, F, hE, hX⟩ := hr
  unfold wpL
  rw [wanted_gcond hg hd hdn hE hgc]
  cases g with
  | true =>
    obtain ⟨c, h1, hc⟩ := h rfl
    obtain ⟨cv, hrun, hv⟩ := ave_sound hT (fun x => hE.ev x) hX.s.o o h1 hc
    rw [if_pos rfl]
    left
    unfold Oper.wp
    rw [hrun]
    exact hn β _ w (Rel.put hdf hE (.gd (fun _ => hv) (fun h => by cases h)) hX)
  | false =>
    rw [if_neg (by simp)]
    exact hn β _ w (Rel.put hdf hE (.gd (fun h => by cases h) (fun _ => rfl)) hX)
/-- a guarded operation, its two ways apart -/
theorem WL_split {ops : Array Oper} {o : Oper} {rest : List Oper} {j d : Nat} {want g : Bool} (hg : o.guard = some (j, want)) (hd : (ops[j]?).bind (·.dst) = some d) (hdn : Nat.blt d nt = true) (hgc : gcond want (get s.e d) = some g)
    (ht : g = true → WL P nt lo ops ({ o with guard := none } :: rest) s Q) (hf : g = false → WL P nt lo ops rest { s with e := wr nt s.e o.dst (.gd false .und) } Q) : WL P nt lo ops (o :: rest) s Q := by
  intro β a w hr
  obtain ⟨hdf, μ, F, hE, hX⟩ := hr
  unfold wpL
  rw [wanted_gcond hg hd hdn hE hgc]
  cases g with
  | true =>
    rw [if_pos rfl]
    have := ht rfl β a w ⟨hdf, μ, F, hE, hX⟩
    unfold wpL at this
    rw [wanted_none rfl, if_pos rfl] at this
    exact this
  | false =>
    rw [if_neg (by simp)]
    exact hf rfl β _ w (Rel.put hdf hE (.gd (fun h => by cases h) (fun _ => rfl)) hX)
end
end Go.AM
end
section
namespace Go.AM
open Go.RowKit
set_option linter.unusedVariables false
set_option linter.unusedSimpArgs false
section
variable {P : Program} {T : Tab} {nt lo : Nat} {s : St} {Q : Exit → St → Prop} {F : Mem} {μ : Pm} {n0 nx : Nat} {w0 w w' : World} {O : Objs} {K : Toks} {β : Bs}
theorem RelX.call {F' : Mem} (h : RelX β lo μ F O K nx w) (hb : Below w.heap.size w w') (h1 : ∀ a v, F a = some v → F' a = some v) (h2 : ∀ a v, F' a = some v → a.block < w.heap.size → F a = some v) (h3 : ∀ a v, F' a = some v → w'.cell? a = some v) : RelX β lo μ F' O K nx w' := by
  have hk := h.s.keep hb
  refine ⟨⟨⟨hk.o.below, hk.o.base, hk.o.fresh, fun id o ho => ?_, hk.o.apart, h3, fun id o b cs sz ho hm a v ha hab => ?_⟩, ⟨fun id ty sz n hid => ?_, hk.t.apart⟩⟩, fun a v q => h1 a v (h.fa a v q), fun a v q hq => ?_, h.m0, fun a v q => h1 a v (h.f0 a v q), h.lo0, h.lo1, h.dzl⟩
  · obtain ⟨b, cs, cur, k1, k2, k3, k4, k5, k6, k7⟩ := hk.o.obj id o ho
    exact ⟨b, cs, cur, k1, k2, k3, k4, k5, k6, fun i c j v p1 p2 => ⟨(k7 i c j v p1 p2).1.mono (Pm.le.refl _) h1, (k7 i c j v p1 p2).2⟩⟩
  · obtain ⟨b1, cs1, cur1, k1, _, k3, _⟩ := h.s.o.obj id o ho
    rw [hm] at k1; cases k1
    exact h.s.o.froz id o _ _ _ ho hm a v (h2 a v ha (by rw [hab]; exact heap_lt k3)) hab
  · obtain ⟨cv, k1, k2, k3⟩ := hk.t.tok id ty sz n hid
    refine ⟨cv, k1, k2, ?_⟩
    rcases k3 with k3 | ⟨b, cap, cur, e1, e2, e20, e3, e4, e5, e6, e7, e8⟩
    · exact .inl k3
    · refine .inr ⟨b, cap, cur, e1, e2, e20, e3, e4, e5, e6, fun a v ha hab => ?_, e8⟩
      obtain ⟨cv1, g1, _, g3⟩ := h.s.t.tok id ty sz n hid
      rw [k1] at g1; cases g1
      rcases g3 with ⟨_, _, g⟩ | ⟨b1, _, _, g4, _, _, _, _, g8, _⟩
      · rw [e1] at g; cases g; omega
      · rw [e1] at g4; cases g4
        exact e7 a v (h2 a v ha (by rw [hab]; exact heap_lt g8)) hab
  · exact h.fb a v (h2 a v q (by have := h.s.o.base; omega)) hq
/-- whom a call calls, with what -/
def aCall (e : Operand → AV) (c : Call) : Option (Prop × FuncId × List AV) :=
  match c.callee with
  | .value f => match strip (e f) with
    | .fn g fs cs => some (sgs (c.operands.toList.map e), g, fs ++ c.args.toList.map (fun x => strip (e x)) ++ cs)
    | _ => none
  | _ => none
theorem run_call {e : Operand → AV} {ρ : Operand → Value} (hE : ∀ x, RelV F μ (e x) (ρ x)) {c : Call} {g : FuncId} {ags : List AV} {p : Prop} (h : aCall e c = some (p, g, ags)) (hp : p) (hc : Callable P g) (o : Oper) (ho : o.op = .call c) :
    ∃ cargs, (execOp ρ o).run P w = .ok (.enter g cargs) w ∧ RelA μ F ags cargs := by
  obtain ⟨callee, args, ats⟩ := c
  obtain ⟨dst, op, ty, pos, after, gd⟩ := o
  dsimp only at ho; subst ho
  cases callee <;> simp only [aCall, reduceCtorEq] at h
  rename_i f
  split at h
  · rename_i g' fs cs hf
    simp only [Option.some.injEq, Prod.mk.injEq] at h
    obtain ⟨rfl, rfl, rfl⟩ := h
    have hs := sgs_mem hp
    have hfv := (hE f).strip (hs _ (List.mem_map.2 ⟨f, by simp [Call.operands], rfl⟩))
    rw [hf] at hfv
    generalize hρ : ρ f = cf at hfv
    cases hfv with
    | @fn _ _ _ _ A C hA hC ha hc' =>
      obtain ⟨fn, hfn, hbody, hname⟩ := hc
      have hbn : fn.body ≠ none := by intro hq; simp [hq] at hbody
      have hnn : fn.name ≠ "runtime.NumGoroutine" := by intro hq; simp [hq] at hname
      refine ⟨A ++ args.map ρ ++ C, ?_, ?_, ?_⟩
      · simp [execOp, resolve, hρ, Deferred.ofValue, invoke, callFunc, hfn, hnn, hbn]
      · simp [hA, hC]
      · intro j v hj
        rw [Array.getD_eq_getD_getElem?]
        by_cases h1 : j < fs.length
        · rw [List.append_assoc, List.getElem?_append_left h1] at hj
          have := ha j v hj
          rw [Array.append_assoc, Array.getElem?_append_left (by omega)]
          rwa [Array.getD_eq_getD_getElem?] at this
        · by_cases h2 : j < fs.length + args.size
          · rw [List.append_assoc, List.getElem?_append_right (by omega), List.getElem?_append_left (by simp; omega), List.getElem?_map] at hj
            rw [Array.append_assoc, Array.getElem?_append_right (by omega), Array.getElem?_append_left (by simp; omega), hA, Array.getElem?_map]
            have hlt : j - fs.length < args.size := by omega
            have hx : args.toList[j - fs.length]? = some args[j - fs.length] := by simp [hlt]
            rw [hx] at hj
            simp only [Option.map_some, Option.some.injEq] at hj
            subst hj
            rw [Array.getElem?_eq_getElem hlt]
            exact (hE _).strip (hs _ (List.mem_map.2 ⟨args[j - fs.length], by simp [Call.operands], rfl⟩))
          · rw [List.getElem?_append_right (by simp; omega)] at hj
            rw [Array.getElem?_append_right (by simp; omega)]
            have e1 : (fs ++ args.toList.map (fun x => strip (e x))).length = (A ++ args.map ρ).size := by simp [hA]
            rw [e1] at hj
            have := hc' _ v hj
            rwa [Array.getD_eq_getD_getElem?] at this
  · cases h
theorem demList {ags : List AV} {cargs : Array Value} (h : RelA μ F ags cargs) (hg : (ags.map demA).all grA = true) : RelA Pm0 F (ags.map demA) cargs := by
  refine ⟨by simp [h.1], fun j v hj => ?_⟩
  rw [List.getElem?_map] at hj
  cases hq : ags[j]? with
  | none => simp [hq] at hj
  | some u =>
    simp [hq] at hj; subst hj
    refine demA_rel (h.2 j u hq) ?_
    simp only [List.all_map, List.all_eq_true] at hg
    exact hg u (List.mem_of_getElem? hq)
theorem call_run {a : Act} (hd : Dm β a.defers w) (hE : RelE μ F nt s.e a.tmps) (hX : RelX β lo μ F s.O s.K s.nx w) {o : Oper} {c : Call} (ho : o.op = .call c) {g : FuncId} {ags : List AV} {p : Prop} (h : aCall (ev s.e) c = some (p, g, ags)) (hp : p)
    (hg : (ags.map demA).all grA = true) {r : AV} (hr : Ok P g (ags.map demA) r) {K' : Act → World → Prop} {Q' : Exit → Act → World → Prop}
    (hn : ∀ cv F' w', Dm β a.defers w' → RelV F' Pm0 r cv → RelE μ F' nt s.e a.tmps → RelX β lo μ F' s.O s.K s.nx w' → K' (a.put o.dst cv) w') : o.wp P a w K' Q' := by
  obtain ⟨cargs, hrun, hA⟩ := run_call (w := w) (fun x => hE.ev x) h hp hr.1 o ho
  unfold Oper.wp
  rw [hrun]
  refine (hr.2 F w cargs hX.s.o.mem (demList hA hg)).mono ?_
  rintro e w' ⟨cv, F', rfl, hv, hb, h1, h2, h3⟩
  exact hn cv F' w' (hd.keep (keepsOthers_below hb)) hv (hE.mono (Pm.le.refl _) h1) (hX.call hb h1 h2 h3)
theorem WL_call {ops : Array Oper} {o : Oper} {rest : List Oper} {c : Call} (ho : o.op = .call c) (hgd : o.guard = none) {g : FuncId} {ags : List AV} {p : Prop} (h : aCall (ev s.e) c = some (p, g, ags)) (hp : p)
    (hg : (ags.map demA).all grA = true) {r : AV} (hr : Ok P g (ags.map demA) r) (hn : WL P nt lo ops rest { s with e := wr nt s.e o.dst r } Q) : WL P nt lo ops (o :: rest) s Q := by
  intro β a w ⟨hd, μ, F, hE, hX⟩
  unfold wpL
  rw [wanted_none hgd, if_pos rfl]
  left
  exact call_run hd hE hX ho h hp hg hr (fun cv F' w' hd' hv hE' hX' => hn β _ w' (Rel.put hd' hE' (hv.mono (Pm.le0 _) (fun _ _ q => q)) hX'))
theorem WL_callg {ops : Array Oper} {o : Oper} {rest : List Oper} {c : Call} (ho : o.op = .call c) {j d : Nat} {want gb : Bool} (hgd : o.guard = some (j, want)) (hdj : (ops[j]?).bind (·.dst) = some d) (hdn : Nat.blt d nt = true) (hgc : gcond want (get s.e d) = some gb)
    {g : FuncId} {ags : List AV} {p : Prop} (h : aCall (ev s.e) c = some (p, g, ags)) (hp : gb = true → p)
    (hg : (ags.map demA).all grA = true) {r : AV} (hr : gb = true → Ok P g (ags.map demA) r) (hn : WL P nt lo ops rest { s with e := wr nt s.e o.dst (.gd gb r) } Q) : WL P nt lo ops (o :: rest) s Q := by
  intro β a w ⟨hd, μ, F, hE, hX⟩
  unfold wpL
  rw [wanted_gcond hgd hdj hdn hE hgc]
  cases gb with
  | true =>
    rw [if_pos rfl]
    left
    exact call_run hd hE hX ho h (hp rfl) hg (hr rfl) (fun cv F' w' hd' hv hE' hX' => hn β _ w' (Rel.put hd' hE' (.gd (fun _ => hv.mono (Pm.le0 _) (fun _ _ q => q)) (fun h => by cases h)) hX'))
  | false =>
    rw [if_neg (by simp)]
    exact hn β _ w (Rel.put hd hE (.gd (fun h => by cases h) (fun _ => rfl)) hX)

/-! ### calls whose body is gone through -/
def Cal (P : Program) (f : FuncId) (lo : Nat) (args : List AV) (O : Objs) (K : Toks) (nx : Nat) (Kp : AV → Objs → Toks → Nat → Prop) : Prop := Callable P f ∧ ∀ (β : Bs) (μ : Pm) (F : Mem) (w : World) (cargs : Array Value), RelX β lo μ F O K nx w → RelA μ F args cargs →
  Calls P f cargs w fun e w' => ∃ cv v O' K' nx' μ' F', e = .returned cv ∧ Kp v O' K' nx' ∧ RelV F' μ' v cv ∧ RelX β lo μ' F' O' K' nx' w' ∧ KeepsOthers w w' ∧ μ.le μ' ∧ ∀ a v, F a = some v → F' a = some v
theorem RelE.enter {args : List AV} {cargs : Array Value} {n : Nat} (hA : RelA μ F args cargs) (hal : args.length ≤ n) : RelE μ F n (enum 0 args) (cargs ++ Array.replicate (n - cargs.size) undef) := by
  refine ⟨?_, fun t => ?_⟩
  · simp only [Array.size_append, Array.size_replicate, hA.1]; omega
  · rw [get_enum, if_pos (Nat.zero_le _), Nat.sub_zero]
    by_cases ht : t < args.length
    · have := hA.2 t _ (List.getElem?_eq_getElem ht)
      have hts : t < cargs.size := by rw [hA.1]; exact ht
      rw [List.getD_eq_getElem?_getD, List.getElem?_eq_getElem ht]
      rw [Array.getD_eq_getD_getElem?] at this ⊢
      rw [Array.getElem?_append_left hts]
      exact this
    · rw [List.getD_eq_getElem?_getD, List.getElem?_eq_none (by omega)]
      exact .und _
def EndsK (T : Tab) (fn : Func) (Kp : AV → Objs → Toks → Nat → Prop) (e : Exit) (s : St) : Prop := (e = .normal ∨ e = .ret) ∧ ∃ c l, resList T s fn.results.toList = some (c, l) ∧ c ∧ Kp (pack l) s.O s.K s.nx
theorem Cal.of_W (hT : Tab.Ok P T) {f : FuncId} {fn : Func} (hf : P.funcs[f]? = some fn) {c : Code} (hb : fn.body = some c) {args : List AV} {Kp : AV → Objs → Toks → Nat → Prop} (hnm : (fn.name == "runtime.NumGoroutine") = false) (hal : args.length ≤ fn.ntmps)
    (h : W P fn.ntmps nx c ⟨enum 0 args, O, K, nx⟩ (EndsK T fn Kp)) : Cal P f lo args O K nx Kp := by
  refine ⟨⟨fn, hf, by rw [hb]; rfl, hnm⟩, ?_⟩
  intro β μ F w cargs hX hA
  have hRel : Rel ⟨β.n0, β.w0, β.Fa, μ, F, none, w, false⟩ fn.ntmps nx ⟨enum 0 args, O, K, nx⟩ { tmps := cargs ++ Array.replicate (fn.ntmps - cargs.size) undef, defers := [] } w :=
    ⟨⟨.refl _, fun l h => (by cases h), fun _ => rfl, [], rfl, List.nodup_nil, fun D h => (by cases h)⟩, μ, F, RelE.enter hA hal, ⟨hX.s, hX.fa, hX.fb, Pm.le.refl _, fun _ _ q => q, hX.s.o.fresh, Nat.le_refl _, fun h => (by cases h)⟩⟩
  refine callsIn_wide.1 (callsIn_of_wp_marks (F := Fence.wide) (n := 0) hf hb trivial (wpIn_mono (h _ _ w hRel) ?_))
  rintro e a' w' ⟨s', ⟨he, cnd, l, hres, hc, hk⟩, ⟨hko, _, _, Ds, hds, hnd, hD⟩, μ', F', hE, hX'⟩
  have fin : LeavesInM Fence.wide 0 P fn a'.tmps (fun e w' => ∃ cv v' O' K' nx' μ' F', e = .returned cv ∧ Kp v' O' K' nx' ∧ RelV F' μ' v' cv ∧ RelX β lo μ' F' O' K' nx' w' ∧ KeepsOthers w w' ∧ μ.le μ' ∧ ∀ a v, F a = some v → F' a = some v) a'.defers .returning w' := by
    rw [hds]
    refine leaves_marks Ds w' hnd hD hX' hko (fun w2 hX2 hko2 => ?_)
    obtain ⟨cv, hrun, hv⟩ := run_results hT hE hX2.s.o hres hc
    exact ⟨cv, hrun, cv, pack l, s'.O, s'.K, s'.nx, μ', F', rfl, hk, hv, ⟨hX2.s, hX2.fa, hX2.fb, hX.m0.trans hX2.m0, fun a v q => hX2.f0 a v (hX.f0 a v q), hX.lo0, Nat.le_trans hX.lo1 hX2.lo1, hX.dzl⟩, hko2, hX2.m0, hX2.f0⟩
  rcases he with rfl | rfl <;> exact fin
theorem WL_inl {ops : Array Oper} {o : Oper} {rest : List Oper} {c : Call} (ho : o.op = .call c) (hgd : o.guard = none) {g : FuncId} {ags : List AV} {p : Prop} (h : aCall (ev s.e) c = some (p, g, ags)) (hp : p)
    (hr : Cal P g lo ags s.O s.K s.nx (fun v O' K' nx' => WL P nt lo ops rest ⟨wr nt s.e o.dst v, O', K', nx'⟩ Q)) : WL P nt lo ops (o :: rest) s Q := by
  intro β a w ⟨hd, μ, F, hE, hX⟩
  unfold wpL
  rw [wanted_none hgd, if_pos rfl]
  left
  obtain ⟨cargs, hrun, hA⟩ := run_call (w := w) (fun x => hE.ev x) h hp hr.1 o ho
  unfold Oper.wp
  rw [hrun]
  refine (hr.2 β μ F w cargs hX hA).mono ?_
  rintro e w' ⟨cv, v, O', K', nx', μ', F', rfl, hk, hv, hX', hko, hle, hF⟩
  exact hk β _ w' (Rel.put (s := s) (hd.keep hko) (hE.mono hle hF) hv hX')
end
end Go.AM
end
section
namespace Go.AM
open Go.RowKit Go.ChangeShapes Go.WideShapes
set_option linter.unusedVariables false
set_option linter.unusedSimpArgs false
/-- the whole memory -/
def memW (W : World) : Mem := fun a => W.cell? a
/-- what reads as data of the type t is a tree f x of an x that is well formed -/
def Opn {α : Type} (P : Program) (t : TypeId) (sz : Nat) (f : α → List AV) (wf : α → Prop) : Prop :=
  P.cellsOf t = sz ∧ (∀ x, (f x).length = sz) ∧ ∀ (H : Type) (enc : TypeId × Value → H) (W : World) (base : Nat) (spare : Nat → Bool) (held : Bool) (fuel : Nat) (cs : List Value) (r : DataW H × List MemPlace),
    DataW.trod enc P W base spare held fuel t cs = some r → (∀ n ∈ r.1.weights P t, n ≤ reachBytes) → ∃ x, RelC Pm0 (memW W) (f x) cs ∧ wf x
theorem relC_one {μ : Pm} {F : Mem} {v : AV} {cv : Value} (h : RelV F μ v cv) (h1 : cv.oneCell' = true) : RelC μ F [v] [cv] :=
  ⟨rfl, fun j u hj => by
    cases j with
    | zero => simp at hj; subst hj; exact ⟨cv, rfl, h, h1⟩
    | succ j => simp at hj⟩
theorem RelC.app {μ : Pm} {F : Mem} {l m : List AV} {cs ds : List Value} (h : RelC μ F l cs) (k : RelC μ F m ds) : RelC μ F (l ++ m) (cs ++ ds) :=
  ⟨by simp [h.1, k.1], fun j u hj => by
    by_cases hl : j < l.length
    · rw [List.getElem?_append_left hl] at hj
      rw [List.getElem?_append_left (by rw [h.1]; exact hl)]
      exact h.2 j u hj
    · rw [List.getElem?_append_right (by omega)] at hj
      rw [List.getElem?_append_right (by rw [h.1]; omega), h.1]
      exact k.2 _ u hj⟩
theorem Opn.int {P : Program} {t : TypeId} {k : IntKind} (hu : P.underlying t = some (.int k)) (hc : P.cellsOf t = 1) : Opn P t 1 (fun (x : Int) => [.int k x]) (fun x => (Lit.int k x).wf = true) := by
  refine ⟨hc, fun _ => rfl, fun H enc W base spare held fuel cs r hr hw => ?_⟩
  obtain ⟨m, rfl, _, h2⟩ := DataW.trod_int hu hr
  exact ⟨m, relC_one (.int k m) rfl, h2⟩
theorem Opn.bool {P : Program} {t : TypeId} (hu : P.underlying t = some .bool) (hc : P.cellsOf t = 1) : Opn P t 1 (fun (x : Bool) => [.bool x]) (fun _ => True) := by
  refine ⟨hc, fun _ => rfl, fun H enc W base spare held fuel cs r hr hw => ?_⟩
  obtain ⟨b, rfl, _⟩ := DataW.trod_bool hu hr
  exact ⟨b, relC_one (.bool b) rfl, trivial⟩
theorem weightsAll_mem {H : Type} {P : Program} {e : TypeId} : ∀ {ds : List (DataW H)} {d : DataW H}, d ∈ ds → ∀ n ∈ d.weights P e, n ∈ DataW.weightsAll P e ds
  | d0 :: ds, d, hd, n, hn => by
    simp only [DataW.weightsAll, List.mem_append]
    rcases List.mem_cons.1 hd with rfl | hd
    · exact .inl hn
    · exact .inr (weightsAll_mem hd n hn)
theorem list_choice {α : Type} {Q : Nat → α → Prop} : ∀ (n : Nat), (∀ i, i < n → ∃ x, Q i x) → ∃ xs : List α, xs.length = n ∧ ∀ i x, xs[i]? = some x → Q i x
  | 0, _ => ⟨[], rfl, fun i x h => by simp at h⟩
  | n + 1, h => by
    obtain ⟨xs, hl, hx⟩ := list_choice n (fun i hi => h i (by omega))
    obtain ⟨y, hy⟩ := h n (by omega)
    refine ⟨xs ++ [y], by simp [hl], fun i x hi => ?_⟩
    by_cases hlt : i < n
    · rw [List.getElem?_append_left (by omega)] at hi
      exact hx i x hi
    · rw [List.getElem?_append_right (by omega), hl] at hi
      have e : i = n := by
        have := (List.getElem?_eq_some_iff.1 hi).1
        simp at this; omega
      subst e
      simp at hi
      subst hi
      exact hy
theorem Opn.slice {α : Type} {P : Program} {t e : TypeId} {sz : Nat} {f : α → List AV} {wf : α → Prop} {B : Nat} (hu : P.underlying t = some (.slice e)) (hc : P.cellsOf t = 1) (hB : P.bytesOf e = B) (hpos : 0 < sz) (h : Opn P e sz f wf) :
    Opn P t 1 (fun (xs : List α) => [.ro (xs.map f)]) (fun xs => xs.length * B ≤ reachBytes ∧ ∀ x ∈ xs, wf x) := by
  refine ⟨hc, fun _ => rfl, fun H enc W base spare held fuel cs r hr hw => ?_⟩
  rcases DataW.trod_slice hu hr with ⟨rfl, rfl⟩ | ⟨a, len, cap, elems, rest, n, rfl, rfl, rfl, hb, hl, hm, hlen, hel, hsp, hns⟩
  · exact ⟨[], relC_one .ro0 rfl, by simp, by simp⟩
  · have hw' : ∀ n ∈ ((elems.map (·.1)).length + (rest.map (·.1)).length) * P.bytesOf e :: (DataW.weightsAll P e (elems.map (·.1)) ++ DataW.weightsAll P e (rest.map (·.1))), n ≤ reachBytes := by
      intro n hn
      exact hw n (by simp only [DataW.weights, hu]; exact hn)
    obtain ⟨xs, hxl, hx⟩ := list_choice (Q := fun i x => ∃ c : List Value, c.length = sz ∧ RelC Pm0 (memW W) (f x) c ∧ wf x ∧ ∀ j u, c[j]? = some u → W.cell? (a.add (i * sz + j)) = some u) len (fun i hi => by
      have h1 := hel i hi
      have hlt : i < elems.length := by omega
      rw [List.getElem?_eq_getElem hlt, Option.bind_eq_some_iff] at h1
      obtain ⟨c, hcs, hy⟩ := h1
      obtain ⟨hb1, hc1, hcell⟩ := World.cells?_some hcs
      obtain ⟨x, hk, hwf⟩ := h.2.2 H enc W base spare held n c _ hy (fun m hm => hw' m (by
        refine List.mem_cons_of_mem _ (List.mem_append.2 (.inl (weightsAll_mem (List.mem_map_of_mem (List.getElem_mem hlt)) m hm)))))
      refine ⟨x, c, by rw [hc1, h.1], hk, hwf, fun j u hu' => ?_⟩
      have hj : j < P.cellsOf e := by
        have := (List.getElem?_eq_some_iff.1 hu').1
        omega
      have := hcell j hj
      rw [Addr.add_add, h.1] at this
      rw [this]; exact hu')
    refine ⟨xs, relC_one ?_ rfl, ?_, ?_⟩
    · have hcell : ∀ (i : Nat) c (j : Nat) v, (xs.map f)[i]? = some c → c[j]? = some v → ∃ u, W.cell? (a.add (i * sz + j)) = some u ∧ RelV (memW W) Pm0 v u ∧ u.oneCell' = true := by
        intro i c j v hi hj
        rw [List.getElem?_map] at hi
        cases hq : xs[i]? with
        | none => simp [hq] at hi
        | some x =>
          simp [hq] at hi; subst hi
          obtain ⟨c, k1, k2, _, k4⟩ := hx i x hq
          obtain ⟨u, e1, e2, e3⟩ := k2.2 j v hj
          exact ⟨u, k4 j u e1, e2, e3⟩
      have hspot : xs ≠ [] → a = ⟨a.block, a.off, none⟩ := by
        intro hne
        cases hxs : xs with
        | nil => exact absurd hxs hne
        | cons x r =>
          have h0 : (xs.map f)[0]? = some (f x) := by rw [hxs]; rfl
          have hfl : 0 < (f x).length := by rw [h.2.1]; exact hpos
          obtain ⟨u, e1, _⟩ := hcell 0 _ 0 _ h0 (List.getElem?_eq_getElem hfl)
          rw [Nat.zero_mul] at e1
          obtain ⟨ab, ao, asp⟩ := a
          cases asp with
          | none => rfl
          | some s =>
            have : (Addr.add ⟨ab, ao, some s⟩ (0 + 0)).spot.isSome = true := rfl
            unfold World.cell? at e1
            split at e1
            · rw [this] at e1; simp at e1
            · cases e1
      have hl2 : (xs.map f).length = len := by simp [hxl]
      rw [← hl2]
      refine .ro (b := a.block) (o := a.off) (sz := sz) (fun i j => (W.cell? (a.add (i * sz + j))).getD undef) (fun i c hi => ?_) (fun i c j v hi hj => ?_) (fun i c j v hi hj => ?_) (by rw [hl2]; exact hl) (by rw [hl2]; omega) (fun hne => ?_)
      · obtain ⟨x, _, rfl⟩ := List.mem_map.1 (List.mem_of_getElem? hi)
        exact h.2.1 x
      · obtain ⟨u, e1, e2, e3⟩ := hcell i c j v hi hj
        rw [e1]
        refine ⟨?_, e3⟩
        have : (⟨a.block, a.off + i * sz + j, none⟩ : Addr) = a.add (i * sz + j) := by
          rw [hspot (by rintro rfl; simp at hi)]
          show (⟨a.block, a.off + i * sz + j, none⟩ : Addr) = if i * sz + j = 0 then ⟨a.block, a.off, none⟩ else ⟨a.block, a.off + (i * sz + j), none⟩
          split
          · rename_i h0
            have e : a.off + i * sz + j = a.off := by omega
            rw [e]
          · rw [Nat.add_assoc]
        show W.cell? _ = _
        rw [this]; exact e1
      · obtain ⟨u, e1, e2, e3⟩ := hcell i c j v hi hj
        rw [e1]; exact e2
      · exact hspot (by rintro rfl; exact hne rfl)
    · have h1 := hw' _ (List.mem_cons_self)
      rw [hB] at h1
      refine Nat.le_trans (Nat.mul_le_mul_right B ?_) h1
      simp only [List.length_map]; omega
    · intro x hxm
      obtain ⟨j, hj⟩ := List.getElem?_of_mem hxm
      obtain ⟨c, h1, h2, h3, h4⟩ := hx j x hj
      exact h3
/-- fields in line, from an offset on -/
def Flds {α : Type} (P : Program) (fs : List Field) (off sz : Nat) (f : α → List AV) (wf : α → Prop) : Prop :=
  (∀ x, (f x).length = sz) ∧ ∀ (H : Type) (enc : TypeId × Value → H) (W : World) (base : Nat) (spare : Nat → Bool) (held : Bool) (fuel : Nat) (cs : List Value) (xs : List (DataW H × List MemPlace)),
    cs.length = off + sz → xs.length = fs.length → (∀ (i : Nat) (f : Field), fs[i]? = some f → DataW.trod enc P W base spare held fuel f.type ((cs.drop f.offset).take (P.cellsOf f.type)) = xs[i]?) →
    (∀ n ∈ DataW.weightsEach P (fs.map (·.type)) (xs.map (·.1)), n ≤ reachBytes) → ∃ x, RelC Pm0 (memW W) (f x) (cs.drop off) ∧ wf x
theorem Flds.one {α : Type} {P : Program} {fd : Field} {off sz : Nat} {f : α → List AV} {wf : α → Prop} (ho : fd.offset = off) (h : Opn P fd.type sz f wf) : Flds P [fd] off sz f wf := by
  refine ⟨h.2.1, ?_⟩
  intro H enc W base spare held fuel cs xs hcs hxs hf hw
  obtain ⟨y, rfl⟩ : ∃ y, xs = [y] := List.length_eq_one_iff.1 hxs
  have h1 := hf 0 fd rfl
  rw [ho, h.1, List.take_of_length_le (by simp [hcs])] at h1
  exact h.2.2 H enc W base spare held fuel _ y h1 (fun n hn => hw n (by simp only [List.map_cons, List.map_nil, DataW.weightsEach, List.append_nil]; exact hn))
theorem Flds.cons {α β : Type} {P : Program} {fd : Field} {fs : List Field} {off sz sz' : Nat} {f : α → List AV} {f' : β → List AV} {wf : α → Prop} {wf' : β → Prop} (ho : fd.offset = off) (h : Opn P fd.type sz f wf) (hs : Flds P fs (off + sz) sz' f' wf') :
    Flds P (fd :: fs) off (sz + sz') (fun (x : α × β) => f x.1 ++ f' x.2) (fun x => wf x.1 ∧ wf' x.2) := by
  refine ⟨fun x => by rw [List.length_append, h.2.1, hs.1], ?_⟩
  intro H enc W base spare held fuel cs xs hcs hxs hf hw
  cases xs with
  | nil => simp at hxs
  | cons y ys =>
  have h1 := hf 0 fd rfl
  rw [ho, h.1] at h1
  obtain ⟨x, hx, hwx⟩ := h.2.2 H enc W base spare held fuel _ y h1 (fun n hn => hw n (by simp only [List.map_cons, DataW.weightsEach, List.mem_append]; exact .inl hn))
  obtain ⟨z, hz, hwz⟩ := hs.2 H enc W base spare held fuel cs ys (by omega) (by simpa using hxs) (fun i g hg => by have := hf (i + 1) g (by simpa using hg); simpa using this)
    (fun n hn => hw n (by simp only [List.map_cons, DataW.weightsEach, List.mem_append]; exact .inr hn))
  refine ⟨(x, z), ?_, hwx, hwz⟩
  have := hx.app hz
  rwa [← List.drop_drop, List.take_append_drop] at this
theorem Opn.struct {α : Type} {P : Program} {t : TypeId} {fs : Array Field} {sz sz' : Nat} {f : α → List AV} {wf : α → Prop} (hu : P.underlying t = some (.struct fs)) (hc : P.cellsOf t = sz) (h : Flds P fs.toList 0 sz' f wf) (hs : sz' = sz) : Opn P t sz f wf := by
  subst hs
  refine ⟨hc, h.1, fun H enc W base spare held fuel cs r hr hw => ?_⟩
  obtain ⟨xs, n, rfl, rfl, hl, hx, hf⟩ := DataW.trod_struct hu hr
  have := h.2 H enc W base spare held n cs xs (by omega) (by simpa using hx) (fun i f hi => hf i f (by simpa using hi)) (fun m hm => hw m (by simp only [DataW.weights, hu]; exact hm))
  simpa using this
theorem Opn.iso {α β : Type} {P : Program} {t : TypeId} {sz : Nat} {f : α → List AV} {g : β → List AV} {wf : α → Prop} {wf' : β → Prop} (mk : α → β) (prj : β → α) (hp : ∀ y, mk (prj y) = y) (hm : ∀ x, g (mk x) = f x) (hw : ∀ x, wf x → wf' (mk x)) (h : Opn P t sz f wf) : Opn P t sz g wf' := by
  refine ⟨h.1, fun y => by rw [← hp y, hm]; exact h.2.1 _, fun H enc W base spare held fuel cs r hr hww => ?_⟩
  obtain ⟨x, hx, hwx⟩ := h.2.2 H enc W base spare held fuel cs r hr hww
  exact ⟨mk x, by rw [hm]; exact hx, hw x hwx⟩
/-- a law's argument, opened -/
theorem Opn.arg {α : Type} {P : Program} {t : TypeId} {sz : Nat} {f : α → List AV} {wf : α → Prop} (h : Opn P t sz f wf) {H : Type} {enc : TypeId × Value → H} {W : World} {base : Nat} {spare : Nat → Bool} {held : Bool} {v : Value} {x : DataW H} {ps : List MemPlace}
    (ht : DataW.Trod enc P W base spare held t v x ps) {ts : List TypeId} {ds : List (DataW H)} {j : Nat} (hsz : (DataW.weightsEach P ts ds).all (· ≤ reachBytes) = true) (hj : ts[j]? = some t) (hd : ds[j]? = some x) :
    ∃ y, RelC Pm0 (memW W) (f y) v.cells.toList ∧ wf y := by
  obtain ⟨fuel, hf⟩ := ht
  exact h.2.2 H enc W base spare held fuel _ _ hf (fun n hn => by simpa using List.all_eq_true.1 hsz n (DataW.weights_mem_each hj hd n hn))
theorem arg_agg {P : Program} {W : World} {r : Reach} {b : Nat} {t : TypeId} {v : Value} {fs : Array Field} {l : List AV} (hu : P.underlying t = some (.struct fs)) (h : Value.okWide P W r b t v) (hr : RelC Pm0 (memW W) l v.cells.toList) : RelV (memW W) Pm0 (.agg l) v := by
  unfold Value.okWide at h
  rw [hu] at h
  obtain ⟨cs, rfl, _⟩ := h
  refine .agg (by have := hr.1; simpa [Value.cells] using this) (fun j u hj => ?_)
  obtain ⟨cv, h1, h2, _⟩ := hr.2 j u hj
  have : cs.getD j undef = cv := by
    rw [Array.getD_eq_getD_getElem?]
    have h1' : cs.toList[j]? = some cv := h1
    rw [Array.getElem?_toList] at h1'
    rw [h1']; rfl
  rw [this]; exact h2
theorem arg_slice {P : Program} {W : World} {r : Reach} {b : Nat} {t e : TypeId} {v : Value} {u : AV} (hu : P.underlying t = some (.slice e)) (h : Value.okWide P W r b t v) (hr : RelC Pm0 (memW W) [u] v.cells.toList) : RelV (memW W) Pm0 u v := by
  obtain ⟨A, n, c, rfl⟩ := okWide_slice hu h
  obtain ⟨cv, h1, h2, _⟩ := hr.2 0 u rfl
  simp [Value.cells] at h1
  subst h1; exact h2
theorem relA_nil {F : Mem} {μ : Pm} : RelA μ F [] #[] := ⟨rfl, fun j v h => by simp at h⟩
theorem relA_of {F : Mem} {μ : Pm} {l : List AV} {cs : List Value} (hl : cs.length = l.length) (h : ∀ (j : Nat) v, l[j]? = some v → RelV F μ v (cs.getD j undef)) : RelA μ F l cs.toArray :=
  ⟨by simpa using hl, fun j v hj => by have := h j v hj; rwa [List.getD_eq_getElem?_getD, ← List.getElem?_toArray, ← Array.getD_eq_getD_getElem?] at this⟩
theorem rel1 {F : Mem} {μ : Pm} {v0 : AV} {c0 : Value} (h0 : RelV F μ v0 c0) : RelA μ F [v0] #[c0] := relA_of (cs := [c0]) rfl (fun j v hj => match j, hj with | 0, hj => by simp at hj; subst hj; exact h0 | j + 1, hj => by simp at hj)
theorem rel2 {F : Mem} {μ : Pm} {v0 v1 : AV} {c0 c1 : Value} (h0 : RelV F μ v0 c0) (h1 : RelV F μ v1 c1) : RelA μ F [v0, v1] #[c0, c1] := relA_of (cs := [c0, c1]) rfl (fun j v hj => match j, hj with | 0, hj => by simp at hj; subst hj; exact h0 | 1, hj => by simp at hj; subst hj; exact h1 | j + 2, hj => by simp at hj)
theorem rel3 {F : Mem} {μ : Pm} {v0 v1 v2 : AV} {c0 c1 c2 : Value} (h0 : RelV F μ v0 c0) (h1 : RelV F μ v1 c1) (h2 : RelV F μ v2 c2) : RelA μ F [v0, v1, v2] #[c0, c1, c2] := relA_of (cs := [c0, c1, c2]) rfl (fun j v hj => match j, hj with | 0, hj => by simp at hj; subst hj; exact h0 | 1, hj => by simp at hj; subst hj; exact h1 | 2, hj => by simp at hj; subst hj; exact h2 | j + 3, hj => by simp at hj)
/-- a law's call, out of its contract -/
theorem Ok.law {P : Program} {f : FuncId} {args : List AV} (h : Ok P f args (.bool true)) {w : World} {cargs : Array Value} (hA : RelA Pm0 (memW w) args cargs) : Calls P f cargs w fun e w' => e = .returned (.bool true) ∧ Below w.heap.size w w' :=
  (h.2 (memW w) w cargs (fun a v q => q) hA).mono (fun e w' ⟨cv, F', he, hv, hb, _⟩ => by cases hv; exact ⟨he, hb⟩)
end Go.AM
end
section
namespace Go.AM
open Go.RowKit
set_option linter.unusedVariables false
set_option linter.unusedSimpArgs false
section
variable {P : Program} {T : Tab} {nt lo : Nat} {s : St} {Q : Exit → St → Prop} {F : Mem} {μ : Pm} {n0 nx : Nat} {w0 w w' : World} {O : Objs} {K : Toks} {β : Bs}

theorem keepsOthers_setRow {w : World} {b : Nat} {cur : Array Value} {ty : TypeId} {hdr : Nat × Nat} (hblk : w.heap[b]? = some (.cells cur ty hdr)) (cur' : Array Value) : KeepsOthers w (w.setRow b cur') :=
  KeepsOthers.of_grownBy (row := some b) ⟨rfl, rfl, rfl, by simp, fun k _ hk' => setRow_other w b k _ (fun e => hk' (by simp [e]))⟩ (fun j o e hj => by cases e; rw [hblk] at hj; cases hj; rfl)
theorem RelX.newOb (h : RelX β lo μ F O K nx w) (hb : Below w.heap.size w w') {b : Nat} (hbn : w.heap.size ≤ b) {cur : Array Value} {o : Ob} (hblk : w'.heap[b]? = some (.cells cur o.ty (0, 0)))
    (hle : o.es.length * o.sz ≤ cur.size) (hlen : ∀ (i : Nat) c, o.es[i]? = some c → c.length = o.sz)
    (hrel : ∀ (i : Nat) c (j : Nat) v, o.es[i]? = some c → c[j]? = some v → RelV F μ v (cur.getD (i * o.sz + j) undef) ∧ (cur.getD (i * o.sz + j) undef).oneCell' = true) :
    RelX β lo (μ.add nx (.ob b cur.size o.sz)) F ((nx, some o) :: O) K (nx + 1) w' ∧ μ.le (μ.add nx (.ob b cur.size o.sz)) := by
  have hl := Pm.le_add (μ := μ) (id := nx) (.ob b cur.size o.sz) (h.s.o.fresh nx (Nat.le_refl _))
  exact ⟨⟨h.s.new hb hbn hblk hle hlen hrel, h.fa, h.fb, h.m0.trans hl, h.f0, h.lo0, Nat.le_succ_of_le h.lo1, h.dzl⟩, hl⟩
theorem below_alloc (w : World) (o : Obj) : Below w.heap.size w (w.alloc o) := (Below.refl _ _).alloc (Nat.le_refl _) o
/-- a new variable -/
theorem one_ob {v : AV} {cv : Value} (hv : RelV F μ v cv) (hp : v.plain = true) (ho : v.cells.all AV.one = true) : [v.cells].length * v.cells.length ≤ cv.cells.size ∧ (∀ (i : Nat) c, [v.cells][i]? = some c → c.length = v.cells.length) ∧
    ∀ (i : Nat) c (j : Nat) u, [v.cells][i]? = some c → c[j]? = some u → RelV F μ u (cv.cells.getD (i * v.cells.length + j) undef) ∧ (cv.cells.getD (i * v.cells.length + j) undef).oneCell' = true := by
  obtain ⟨h1, h2⟩ := hv.cells (plain_or hp)
  refine ⟨by simp [h1], fun i c hi => ?_, fun i c j u hi hj => ?_⟩
  · cases i with
    | zero => simp at hi; rw [hi]
    | succ i => simp at hi
  · cases i with
    | zero =>
      simp at hi; subst hi
      rw [Nat.zero_mul, Nat.zero_add]
      have := h2 j u hj
      exact ⟨this, this.one (List.all_eq_true.1 ho u (List.mem_of_getElem? hj))⟩
    | succ i => simp at hi
theorem WL_box (hT : Tab.Ok P T) {ops : Array Oper} {o : Oper} {rest : List Oper} {t : Nat} {x : Operand} (ho : o.op = .box t x) (hgd : o.guard = none) {v : AV} (hv : strip (ev s.e x) = v) (hsg : sg (ev s.e x)) {cs : List AV} (hcs : v.cells = cs) (hp : v.plain = true) (hone : cs.all AV.one = true) {n : Nat} (hn' : cs.length = n)
    (hn : WL P nt lo ops rest ⟨wr nt s.e o.dst (.ptr s.nx 0 0), (s.nx, some ⟨t, n, 0, [cs]⟩) :: s.O, s.K, s.nx + 1⟩ Q) : WL P nt lo ops (o :: rest) s Q := by
  subst hcs
  intro β a w ⟨hd, μ, F, hE, hX⟩
  unfold wpL
  rw [wanted_none hgd, if_pos rfl]
  left
  have hr := (hE.ev x).strip hsg
  rw [hv] at hr
  obtain ⟨h1, h2, h3⟩ := one_ob hr hp hone
  subst hn'
  have hblk := Go.heap_alloc_new w (.cells (a.eval x).cells t)
  obtain ⟨hX', hle⟩ := hX.newOb (o := ⟨t, v.cells.length, 0, [v.cells]⟩) (below_alloc w (.cells (a.eval x).cells t)) (Nat.le_refl _) hblk h1 h2 h3
  have hrun : (execOp a.eval o).run P w = .ok (.value (.pointer (some ⟨w.heap.size, 0, none⟩))) (w.alloc (.cells (a.eval x).cells t)) := by
    obtain ⟨dst, op, ty, pos, after, gd⟩ := o
    dsimp only at ho; subst ho
    simp [execOp, Instr.box, newVar, newRow]
  unfold Oper.wp
  rw [hrun]
  refine hn β _ _ (Rel.put (s := s) (hd.keep (KeepsOthers.alloc _ _)) (hE.mono hle (fun _ _ q => q)) ?_ hX')
  have := RelV.ptr (F := F) (i := 0) (j := 0) (Pm.add_same μ s.nx (.ob w.heap.size (a.eval x).cells.size v.cells.length))
  simpa using this
theorem alloc_wp (hT : Tab.Ok P T) {o : Oper} {t : Nat} (ho : o.op = .alloc t) {z : List AV} (hz : (T.at t).zero = z) (hzn : (T.at t).size ≠ 0) (hone : z.all AV.one = true) {n : Nat} (hn' : z.length = n)
    {β : Bs} {a : Act} {w : World} (hr : Rel β nt lo s a w) {K' : Act → World → Prop} {Q' : Exit → Act → World → Prop} (hn : ∀ a' w', Rel β nt lo ⟨wr nt s.e o.dst (.ptr s.nx 0 0), (s.nx, some ⟨t, n, 0, [z]⟩) :: s.O, s.K, s.nx + 1⟩ a' w' → K' a' w') : o.wp P a w K' Q' := by
  obtain ⟨hd, μ, F, hE, hX⟩ := hr
  obtain ⟨i, hi, _, _, _, ⟨zv, hzv, hzz⟩, _⟩ := hT.info (Tab.ne_none' hzn)
  rw [hzz] at hz
  have hzr := zero_rel (F := F) (μ := μ) zv
  rw [hz] at hzr
  subst hn'
  have hblk := Go.heap_alloc_new w (.cells zv.cells t)
  have h3 : ∀ (i : Nat) c (j : Nat) u, [z][i]? = some c → c[j]? = some u → RelV F μ u (zv.cells.getD (i * z.length + j) undef) ∧ (zv.cells.getD (i * z.length + j) undef).oneCell' = true := by
    intro i c j u hi' hj
    cases i with
    | zero =>
      simp at hi'; subst hi'
      rw [Nat.zero_mul, Nat.zero_add]
      have := hzr.2 j u hj
      exact ⟨this, this.one (List.all_eq_true.1 hone u (List.mem_of_getElem? hj))⟩
    | succ i => simp at hi'
  obtain ⟨hX', hle⟩ := hX.newOb (o := ⟨t, z.length, 0, [z]⟩) (below_alloc w (.cells zv.cells t)) (Nat.le_refl _) hblk (by simp [hzr.1]) (fun i c hi' => by
    cases i with
    | zero => simp at hi'; rw [hi']
    | succ i => simp at hi') h3
  have hrun : (execOp a.eval o).run P w = .ok (.value (.pointer (some ⟨w.heap.size, 0, none⟩))) (w.alloc (.cells zv.cells t)) := by
    obtain ⟨dst, op, ty, pos, after, gd⟩ := o
    dsimp only at ho; subst ho
    simp [execOp, Instr.alloc, zeroValue, run_info hi, hzv, newVar, newRow]
  unfold Oper.wp
  rw [hrun]
  refine hn _ _ (Rel.put (s := s) (hd.keep (KeepsOthers.alloc _ _)) (hE.mono hle (fun _ _ q => q)) ?_ hX')
  have := RelV.ptr (F := F) (i := 0) (j := 0) (Pm.add_same μ s.nx (.ob w.heap.size zv.cells.size z.length))
  simpa using this
theorem WL_alloc (hT : Tab.Ok P T) {ops : Array Oper} {o : Oper} {rest : List Oper} {t : Nat} (ho : o.op = .alloc t) (hgd : o.guard = none) {z : List AV} (hz : (T.at t).zero = z) (hzn : (T.at t).size ≠ 0) (hone : z.all AV.one = true) {n : Nat} (hn' : z.length = n)
    (hn : WL P nt lo ops rest ⟨wr nt s.e o.dst (.ptr s.nx 0 0), (s.nx, some ⟨t, n, 0, [z]⟩) :: s.O, s.K, s.nx + 1⟩ Q) : WL P nt lo ops (o :: rest) s Q := by
  intro β a w hr
  unfold wpL
  rw [wanted_none hgd, if_pos rfl]
  exact .inl (alloc_wp hT ho hz hzn hone hn' hr (fun a' w' h => hn β a' w' h))
/-- what a store leaves of an element -/
def setEl (es : List (List AV)) (i j : Nat) (vs : List AV) : List (List AV) := es.set i ((es.getD i []).take j ++ vs ++ (es.getD i []).drop (j + vs.length))
theorem store_wp (hT : Tab.Ok P T) {o : Oper} {t : Nat} {x y : Operand} (ho : o.op = .store t x y) {id i j : Nat} (hx : strip (ev s.e x) = .ptr id i j) (hxs : sg (ev s.e x)) {ob : Ob} (hob : lk s.O id = some ob)
    {v : AV} (hv : ∀ (F : Mem) (μ : Pm) (cv : Value), RelV F μ (strip (ev s.e y)) cv → RelV F μ v cv) (hvs : sg (ev s.e y)) {cs : List AV} (hcs : v.cells = cs) (hp : v.plain = true) (hone : cs.all AV.one = true) (hsz : (T.at t).size = cs.length ∧ cs ≠ []) (hi : i < ob.es.length) (hj : j + cs.length ≤ ob.sz) (hf : ob.fz ≤ i) {es' : List (List AV)} (hes : setEl ob.es i j cs = es')
    {β : Bs} {a : Act} {w : World} (hr : Rel β nt lo s a w) {K' : Act → World → Prop} {Q' : Exit → Act → World → Prop} (hn : ∀ a' w', Rel β nt lo ⟨wr nt s.e o.dst .und, (id, some ⟨ob.ty, ob.sz, ob.fz, es'⟩) :: s.O, s.K, s.nx⟩ a' w' → K' a' w') : o.wp P a w K' Q' := by
  subst hcs hes
  obtain ⟨hd, μ, F, hE, hX⟩ := hr
  have hrx := (hE.ev x).strip hxs
  rw [hx] at hrx
  have hrv := hv _ _ _ ((hE.ev y).strip hvs)
  obtain ⟨h1, h2⟩ := hrv.cells (plain_or hp)
  generalize hcx : a.eval x = cx at hrx
  generalize hcy : a.eval y = cy at hrv h1 h2
  cases hrx with
  | @ptr _ _ _ _ b cs sz hm =>
    obtain ⟨b1, cs1, cur1, k1, _⟩ := hX.s.o.obj id ob hob
    rw [hm] at k1; cases k1
    have hie : ob.es[i]? = some (ob.es.getD i []) := by simp [List.getD_eq_getElem?_getD, hi]
    have hRC : RelC μ F v.cells cy.cells.toList := by
      refine ⟨by simpa using h1, fun q u hq => ?_⟩
      have hql : q < cy.cells.size := by rw [h1]; exact (List.getElem?_eq_some_iff.1 hq).1
      have := h2 q u hq
      have he : cy.cells.getD q undef = cy.cells[q] := by simp [Array.getD, hql]
      rw [he] at this
      exact ⟨cy.cells[q], by simp [hql], this, this.one (List.all_eq_true.1 hone u (List.mem_of_getElem? hq))⟩
    obtain ⟨cur, hblk, hfit, hS⟩ := hX.s.set hob hm hie hRC hj hf
    have hlen : cy.cells.toList.length = v.cells.length := hRC.1
    obtain ⟨ti, hti, _, hts, _⟩ := hT.info (t := t) (Tab.ne_none' (by rw [hsz.1]; intro h0; exact hsz.2 (List.eq_nil_of_length_eq_zero h0)))
    have hst := run_storeCells_at (P := P) b (i * ob.sz + j) ob.ty cy.cells.toList 0 cur w hblk (by simpa using hfit) (fun u hu => by
      obtain ⟨q, hq⟩ := List.getElem?_of_mem hu
      have hql : q < v.cells.length := by rw [← hlen]; exact (List.getElem?_eq_some_iff.1 hq).1
      obtain ⟨cv, e1, _, e3⟩ := hRC.2 q _ (List.getElem?_eq_getElem hql)
      rw [hq] at e1; cases e1; exact e3)
    simp only [Nat.add_zero] at hst
    have hsz' : cy.cells.size = ti.size := by rw [h1, ← hsz.1, hts]
    have hrun : (execOp a.eval o).run P w = .ok .skip (w.setRow b (cur.toList.take (i * ob.sz + j) ++ cy.cells.toList ++ cur.toList.drop (i * ob.sz + j + cy.cells.toList.length)).toArray) := by
      obtain ⟨dst, op, ty, pos, after, gd⟩ := o
      dsimp only at ho; subst ho
      simp [execOp, hcx, hcy, Instr.storeAt, Instr.sureAddr, storeVar, run_size hti, hsz', hst]
    unfold Oper.wp
    rw [hrun]
    refine hn _ _ (Rel.put (s := s) (hd.keep (keepsOthers_setRow hblk _)) hE (.und _) ⟨?_, hX.fa, hX.fb, hX.m0, hX.f0, hX.lo0, hX.lo1, hX.dzl⟩)
    have hset : ob.es.set i ((ob.es.getD i []).take j ++ v.cells ++ (ob.es.getD i []).drop (j + v.cells.length)) = setEl ob.es i j v.cells := rfl
    rw [hset] at hS
    exact hS
theorem WL_store (hT : Tab.Ok P T) {ops : Array Oper} {o : Oper} {rest : List Oper} {t : Nat} {x y : Operand} (ho : o.op = .store t x y) (hgd : o.guard = none) {id i j : Nat} (hx : strip (ev s.e x) = .ptr id i j) (hxs : sg (ev s.e x)) {ob : Ob} (hob : lk s.O id = some ob)
    {v : AV} (hv : ∀ (F : Mem) (μ : Pm) (cv : Value), RelV F μ (strip (ev s.e y)) cv → RelV F μ v cv) (hvs : sg (ev s.e y)) {cs : List AV} (hcs : v.cells = cs) (hp : v.plain = true) (hone : cs.all AV.one = true) (hsz : (T.at t).size = cs.length ∧ cs ≠ []) (hi : i < ob.es.length) (hj : j + cs.length ≤ ob.sz) (hf : ob.fz ≤ i) {es' : List (List AV)} (hes : setEl ob.es i j cs = es')
    (hn : WL P nt lo ops rest ⟨wr nt s.e o.dst .und, (id, some ⟨ob.ty, ob.sz, ob.fz, es'⟩) :: s.O, s.K, s.nx⟩ Q) : WL P nt lo ops (o :: rest) s Q := by
  intro β a w hr
  unfold wpL
  rw [wanted_none hgd, if_pos rfl]
  exact .inl (store_wp hT ho hx hxs hob hv hvs hcs hp hone hsz hi hj hf hes hr (fun a' w' h => hn β a' w' h))
/-- the elements that an append takes -/
def srcA (O : Objs) : AV → Option (List (List AV))
  | .row id i m => match lk O id with
    | some o => bif Nat.ble (i + m) o.es.length then some (((o.es.drop i).take m).map (·.map demC)) else none
    | none => none
  | .ro l => some l
  | .app _ l => some l
  | .nils => some []
  | _ => none
theorem src_run (hS : RelS n0 w0 μ F O K nx w) {y : AV} {cy : Value} (hy : RelV F μ y cy) {m : List (List AV)} (h : srcA O y = some m) {sz : Nat} (hsz : 0 < sz) (hz : ∀ (i : Nat) c, m[i]? = some c → c.length = sz) (hg : m.all (fun c => c.all grC) = true) :
    (cy = .slice none 0 0 ∧ m = []) ∨ ∃ a cap cs, cy = .slice (some a) m.length cap ∧ Flat F sz m cs ∧ ∀ (j : Nat) v, cs[j]? = some v → w.cell? (a.add j) = some v := by
  have ro : ∀ {l : List (List AV)}, RelV F Pm0 (.ro l) cy → (∀ (i : Nat) c, l[i]? = some c → c.length = sz) → (cy = .slice none 0 0 ∧ l = []) ∨ ∃ a cap cs, cy = .slice (some a) l.length cap ∧ Flat F sz l cs ∧ ∀ (j : Nat) v, cs[j]? = some v → w.cell? (a.add j) = some v := by
    intro l hl hz
    rcases ro_flat hS.o.mem hl hsz hz with h | ⟨a, cap, cs, h1, _, _, h2, h3⟩
    · exact .inl h
    · exact .inr ⟨a, cap, cs, h1, h2, h3⟩
  unfold srcA at h
  cases y <;> simp only [reduceCtorEq] at h
  case nils => cases h; cases hy; exact .inl ⟨rfl, rfl⟩
  case ro l => cases h; exact ro (demC_rel hy rfl) hz
  case app tok l =>
    cases h
    cases hy with
    | app hro _ _ _ => exact ro hro hz
  case row id i n =>
    split at h
    · rename_i o ho
      cases hb : Nat.ble (i + n) o.es.length <;> rw [hb] at h <;> simp only [cond_true, cond_false, reduceCtorEq] at h
      have hble := Nat.le_of_ble_eq_true hb
      simp only [Option.some.injEq] at h
      subst h
      cases hy with
      | @row _ _ _ _ cap b cs sz' a hm hn hmax ha =>
        obtain ⟨b1, cs1, cur, k1, k2, k3, k4, k5, k6, k7⟩ := hS.o.obj id o ho
        rw [hm] at k1; cases k1
        right
        by_cases hn0 : n = 0
        · subst hn0
          exact ⟨a, cap, [], by simp, ⟨by simp, fun i c hi => by simp at hi, fun i c j v hi hj => by simp at hi⟩, fun j v hj => by simp at hj⟩
        · have hcap : cap ≠ 0 := by omega
          obtain ⟨rfl, hcs⟩ := ha hcap
          have hlen : (((o.es.drop i).take n).map (·.map demC)).length = n := by simp; omega
          have hget : ∀ (q : Nat) c, (((o.es.drop i).take n).map (·.map demC))[q]? = some c → q < n ∧ ∃ c0, o.es[i + q]? = some c0 ∧ c = c0.map demC := by
            intro q c hq
            rw [List.getElem?_map] at hq
            cases hq2 : ((o.es.drop i).take n)[q]? with
            | none => simp [hq2] at hq
            | some c0 =>
              simp [hq2] at hq
              rw [List.getElem?_take] at hq2
              split at hq2
              · rename_i hlt
                rw [List.getElem?_drop] at hq2
                exact ⟨hlt, c0, hq2, hq.symm⟩
              · cases hq2
          have hosz : o.sz = sz := by
            have h0 : (((o.es.drop i).take n).map (·.map demC))[0]? = some (((o.es.drop i).take n).map (·.map demC))[0] := List.getElem?_eq_getElem (by omega)
            obtain ⟨_, c0, e1, e2⟩ := hget 0 _ h0
            have := hz 0 _ h0
            rw [e2, List.length_map, k6 _ _ e1] at this
            exact this
          rw [hosz] at k5 k6 k7
          have hfit : (i + n) * sz ≤ cur.size := Nat.le_trans (Nat.mul_le_mul_right _ hble) k5
          rw [Nat.add_mul] at hfit
          refine ⟨_, cap, (cur.toList.drop (i * sz)).take (n * sz), by rw [hlen], ⟨by rw [hlen]; simp; omega, hz, ?_⟩, ?_⟩
          · intro q c j v hq hj
            obtain ⟨hlt, c0, e1, e2⟩ := hget q c hq
            subst e2
            rw [List.getElem?_map] at hj
            cases hj2 : c0[j]? with
            | none => simp [hj2] at hj
            | some v0 =>
              simp [hj2] at hj; subst hj
              obtain ⟨r1, r2⟩ := k7 _ _ _ _ e1 hj2
              have hjl : j < sz := by rw [← k6 _ _ e1]; exact (List.getElem?_eq_some_iff.1 hj2).1
              have hql : (q + 1) * sz ≤ n * sz := Nat.mul_le_mul_right _ hlt
              rw [Nat.add_mul, Nat.one_mul] at hql
              have hgr : grC (demC v0) = true := by
                have h1 := List.all_eq_true.1 hg _ (List.mem_of_getElem? hq)
                exact List.all_eq_true.1 h1 _ (List.mem_map.2 ⟨v0, List.mem_of_getElem? hj2, rfl⟩)
              have hidx : i * sz + (q * sz + j) = (i + q) * sz + j := by rw [Nat.add_mul]; omega
              have hlt2 : (i + q) * sz + j < cur.size := by rw [Nat.add_mul]; omega
              have he : cur.getD ((i + q) * sz + j) undef = cur[(i + q) * sz + j] := by simp [Array.getD, hlt2]
              rw [he] at r1 r2
              refine ⟨_, ?_, demC_rel r1 hgr, r2⟩
              rw [List.getElem?_take, if_pos (by omega), List.getElem?_drop, hidx]
              simp [hlt2]
          · intro j v hj
            rw [List.getElem?_take] at hj
            split at hj
            · rw [List.getElem?_drop] at hj
              rw [hosz, Addr.add_mid, cell_of_row w b _ cur o.ty (0, 0) k3, ← hj]
              simp
            · cases hj
    · cases h
end
end Go.AM
end
section
namespace Go.AM
open Go.RowKit
set_option linter.unusedVariables false
set_option linter.unusedSimpArgs false
section
variable {P : Program} {T : Tab} {nt lo : Nat} {s : St} {Q : Exit → St → Prop} {F : Mem} {μ : Pm} {n0 nx : Nat} {w0 w w' : World} {O : Objs} {K : Toks} {β : Bs}

/-- a row of the call's own is from now on a slice to append to -/
theorem RelS.rowTok (h : RelS n0 w0 μ F O K nx w) {id : Nat} {o : Ob} (ho : lk O id = some o) {n : Nat} {cv : Value} (hv : RelV F μ (.row id 0 n) cv) (hn : n = o.es.length) (hfz : o.fz ≤ n) (hsz : 0 < o.sz) {l : List (List AV)} (hl : o.es.map (·.map demC) = l) (hg : l.all (fun c => c.all grC) = true) :
    ∃ μ' F', RelS n0 w0 μ' F' ((id, none) :: O) ((nx, some (o.ty, o.sz, n)) :: K) (nx + 1) w ∧ RelV F' μ' (.app nx l) cv ∧ μ.le μ' ∧ (∀ a v, F a = some v → F' a = some v) ∧ ∀ a v, F' a = some v → a.block < n0 → F a = some v := by
  cases hv with
  | @row _ _ _ _ cap b cs sz a hm hncap hmax ha =>
  obtain ⟨b1, cs1, cur, k1, k2, k3, k4, k5, k6, k7⟩ := h.o.obj id o ho
  rw [hm] at k1; cases k1
  have hll : l.length = n := by rw [← hl, hn]; simp
  have hlz : ∀ (i : Nat) c, l[i]? = some c → c.length = o.sz := by
    intro i c hi
    rw [← hl, List.getElem?_map] at hi
    cases hq : o.es[i]? with
    | none => simp [hq] at hi
    | some c0 => simp [hq] at hi; rw [← hi, List.length_map]; exact k6 i c0 hq
  have hk := h.kill id
  have fresh := h.o.fresh nx (Nat.le_refl _)
  have hle : ∀ p, μ.le (μ.add nx p) := fun p => Pm.le_add p fresh
  have hother : ∀ {i : Nat} {p : Pl}, i < nx → (μ.add nx p) i = μ i := fun {i p} hi => Pm.add_other _ _ (by omega)
  -- a state with the new number
  have build : ∀ (F' : Mem) (cv : Value), (∀ a v, F a = some v → F' a = some v) → (∀ a v, F' a = some v → w.cell? a = some v) → (∀ a v, F' a = some v → a.block ≠ b → F a = some v) → (∀ a v, F' a = some v → a.block = b → a.off < n * o.sz) →
      ((n = 0 ∧ ∃ a, cv = .slice a 0 0) ∨ (cv = .slice (some ⟨b, 0, none⟩) n cap ∧ 0 < cap ∧ cap * o.sz = cur.size)) →
      RelS n0 w0 (μ.add nx (.tk n cv)) F' ((id, none) :: O) ((nx, some (o.ty, o.sz, n)) :: K) (nx + 1) w := by
    intro F' cv hF hmem hoth hin hcv
    have bo : ∀ {i : Nat} {q : Ob}, lk ((id, none) :: O) i = some q → lk O i = some q ∧ i ≠ id := by
      intro i q hq
      rw [lk_cons] at hq
      split at hq
      · cases hq
      · rename_i hne; exact ⟨hq, Ne.symm hne⟩
    have hbb : ∀ {i : Nat} {q : Ob} {b2 cs2 sz2}, lk ((id, none) :: O) i = some q → μ i = some (.ob b2 cs2 sz2) → b2 ≠ b := by
      intro i q b2 cs2 sz2 hq hmi
      obtain ⟨h1, h2⟩ := bo hq
      exact h.o.apart i id q o _ _ _ _ _ _ h2 h1 ho hmi hm
    refine ⟨⟨hk.o.below, hk.o.base, fun i hi => ?_, fun i q hq => ?_, fun i i' q q' b1 cs1 sz1 b2 cs2 sz2 hne hq hq' hm1 hm2 => ?_, hmem, fun i q b1 cs1 sz1 hq hm1 a v hav hab => ?_⟩, ⟨fun i ty' sz' m hi => ?_, fun i i' ty1 sz1 ty2 sz2 m1 m2 bb bb' c1 c2 cap1 cap2 hne h1 h2 hm1 hm2 p1 p2 => ?_⟩⟩
    · rw [Pm.add_other _ _ (by omega)]; exact hk.o.fresh i (by omega)
    · obtain ⟨b2, cs2, cur2, e1, e2, e3, e4, e5, e6, e7⟩ := hk.o.obj i q hq
      refine ⟨b2, cs2, cur2, by rw [hother (hk.obj_lt hq)]; exact e1, e2, e3, e4, e5, e6, fun i c j v p1 p2 => ⟨(e7 i c j v p1 p2).1.mono (hle _) hF, (e7 i c j v p1 p2).2⟩⟩
    · rw [hother (hk.obj_lt hq)] at hm1
      rw [hother (hk.obj_lt hq')] at hm2
      exact hk.o.apart i i' q q' _ _ _ _ _ _ hne hq hq' hm1 hm2
    · rw [hother (hk.obj_lt hq)] at hm1
      exact hk.o.froz i q _ _ _ hq hm1 a v (hoth a v hav (by rw [hab]; exact hbb hq hm1)) hab
    · rw [lt_cons] at hi
      split at hi
      · rename_i he; subst he; cases hi
        refine ⟨cv, Pm.add_same _ _ _, hsz, ?_⟩
        rcases hcv with hcv | ⟨hcv, hcp, hcsz⟩
        · exact .inl hcv
        · exact .inr ⟨b, cap, cur, hcv, hncap, hcp, hmax, k2, k3, hcsz.symm, hin, fun i' q' cs' sz' hq' hm' => by
            rw [hother (hk.obj_lt hq')] at hm'
            exact hbb hq' hm' rfl⟩
      · obtain ⟨cv', e1, e2, e3⟩ := hk.t.tok i ty' sz' m hi
        refine ⟨cv', by rw [hother (hk.tok_lt hi)]; exact e1, e2, ?_⟩
        rcases e3 with e3 | ⟨b2, cap2, cur2, f1, f2, f3, f4, f5, f6, f7, f8, f9⟩
        · exact .inl e3
        · have hb2 : b2 ≠ b := by
            rintro rfl
            obtain ⟨cv3, g1, _, g3⟩ := h.t.tok i ty' sz' m hi
            rw [e1] at g1; cases g1
            rcases g3 with ⟨_, _, g⟩ | ⟨b3, cap3, cur3, g4, _, _, _, _, _, _, _, g9⟩
            · rw [f1] at g; cases g; omega
            · rw [f1] at g4; cases g4; exact g9 id o _ _ ho hm
          refine .inr ⟨b2, cap2, cur2, f1, f2, f3, f4, f5, f6, f7, fun a v hav hab => f8 a v (hoth a v hav (by rw [hab]; exact hb2)) hab, fun i' q' cs' sz' hq' hm' => ?_⟩
          rw [hother (hk.obj_lt hq')] at hm'
          exact f9 i' q' _ _ hq' hm'
    · have tb : ∀ {i : Nat} {ty sz m m' : Nat} {bb : Addr} {c1 cap1 : Nat}, lt K i = some (ty, sz, m) → μ i = some (.tk m' (.slice (some bb) c1 cap1)) → 0 < cap1 → bb.block ≠ b := by
        intro i ty sz m m' bb c1 cap1 hi hmi hp hbe
        obtain ⟨cv3, g1, _, g3⟩ := h.t.tok i ty sz m hi
        rw [hmi] at g1; cases g1
        rcases g3 with ⟨_, _, g⟩ | ⟨b3, cap3, cur3, g4, _, _, _, _, _, _, _, g9⟩
        · cases g; omega
        · cases g4; subst hbe; exact g9 id o _ _ ho hm
      have self : ∀ {m' : Nat} {bb : Addr} {c1 cap1 : Nat}, (μ.add nx (.tk n cv)) nx = some (.tk m' (.slice (some bb) c1 cap1)) → 0 < cap1 → bb.block = b := by
        intro m' bb c1 cap1 hmi hp
        rw [Pm.add_same] at hmi
        rcases hcv with ⟨_, _, hcv⟩ | ⟨hcv, _, _⟩
        · subst hcv; cases hmi; omega
        · subst hcv; cases hmi; rfl
      rw [lt_cons] at h1 h2
      split at h1
      · rename_i he; subst he
        rw [if_neg hne] at h2
        have e1 := self hm1 p1
        rw [hother (hk.tok_lt h2)] at hm2
        have e2 := tb h2 hm2 p2
        omega
      · rw [hother (hk.tok_lt h1)] at hm1
        split at h2
        · rename_i he; subst he
          have e1 := self hm2 p2
          have e2 := tb h1 hm1 p1
          omega
        · rw [hother (hk.tok_lt h2)] at hm2
          exact h.t.apart i i' _ _ _ _ _ _ _ _ _ _ _ _ hne h1 h2 hm1 hm2 p1 p2
  by_cases hcap : cap = 0
  · have hn0 : n = 0 := by omega
    have hl0 : l = [] := List.eq_nil_of_length_eq_zero (by omega)
    refine ⟨μ.add nx (.tk n (.slice (some a) n cap)), F, build F _ (fun _ _ q => q) h.o.mem (fun _ _ q _ => q) (fun a v hav hab => ?_) (.inl ⟨hn0, some a, by rw [hn0, hcap]⟩), ?_, hle _, fun _ _ q => q, fun _ _ q _ => q⟩
    · have := h.o.froz id o _ _ _ ho hm a v hav hab
      have hfz0 : o.fz = 0 := by omega
      rw [hfz0] at this; omega
    · rw [hl0]
      refine .app (n := n) (cv0 := .slice (some a) n cap) ?_ (Pm.add_same _ _ _) (by simp) (fun _ => rfl)
      have : RelV F Pm0 (.ro []) (.slice (some a) ([] : List (List AV)).length cap) := .ro (b := 0) (o := 0) (sz := 0) (fun _ _ => undef) (fun i c h => by simp at h) (fun i c j v h => by simp at h) (fun i c j v h => by simp at h) (by simp) (by simp) (fun h => absurd rfl h)
      rw [hn0]; exact this
  · obtain ⟨rfl, hcs⟩ := ha hcap
    rw [Nat.zero_add] at hcs
    have h0 : (⟨b, 0 * o.sz, none⟩ : Addr) = ⟨b, 0, none⟩ := by rw [Nat.zero_mul]
    rw [h0]
    have hfl : Flat F o.sz l (cur.toList.take (l.length * o.sz)) := by
      have hfit : l.length * o.sz ≤ cur.size := by rw [hll, hn]; exact k5
      refine ⟨by simp; omega, hlz, fun i c j v hi hj => ?_⟩
      have hi' := hi
      rw [← hl, List.getElem?_map] at hi
      cases hq : o.es[i]? with
      | none => simp [hq] at hi
      | some c0 =>
        simp [hq] at hi
        subst hi
        rw [List.getElem?_map] at hj
        cases hq2 : c0[j]? with
        | none => simp [hq2] at hj
        | some v0 =>
          simp [hq2] at hj
          subst hj
          obtain ⟨r1, r2⟩ := k7 i c0 j v0 hq hq2
          have hjl : j < o.sz := by rw [← k6 i c0 hq]; exact (List.getElem?_eq_some_iff.1 hq2).1
          have hil : i < l.length := (List.getElem?_eq_some_iff.1 hi').1
          have hmul : (i + 1) * o.sz ≤ l.length * o.sz := Nat.mul_le_mul_right _ hil
          rw [Nat.add_mul, Nat.one_mul] at hmul
          have hlt : i * o.sz + j < cur.size := by omega
          have he : cur.getD (i * o.sz + j) undef = cur[i * o.sz + j] := by simp [Array.getD, hlt]
          rw [he] at r1 r2
          have hgr : grC (demC v0) = true := by
            have h1 := List.all_eq_true.1 hg _ (List.mem_of_getElem? hi')
            exact List.all_eq_true.1 h1 _ (List.mem_map.2 ⟨v0, List.mem_of_getElem? hq2, rfl⟩)
          exact ⟨_, by rw [List.getElem?_take, if_pos (by omega)]; simp [hlt], demC_rel r1 hgr, r2⟩
    have hF := memOf_le (F := F) (w := w) (b := b) (n := n * o.sz) h.o.mem
    refine ⟨_, memOf F w b (n * o.sz), build _ (.slice (some ⟨b, 0, none⟩) n cap) hF (memOf_mem h.o.mem) (fun a v hav hab => by rwa [memOf_other hab] at hav) (memOf_in (fun a v hav hab => by
      have := h.o.froz id o _ _ _ ho hm a v hav hab
      have : o.fz * o.sz ≤ n * o.sz := Nat.mul_le_mul_right _ hfz
      omega)) (.inr ⟨rfl, by omega, by omega⟩), ?_, hle _, hF, fun a v hav hab => by rwa [memOf_other (by omega)] at hav⟩
    refine .app ?_ (Pm.add_same _ _ _) (by omega) (fun _ => rfl)
    have := ro_mk (μ := Pm0) (n := 0) k3 (hfl.mono hF) (cap := cap) (by omega) (by rw [hll]; omega) (fun k hk => by unfold memOf; rw [if_pos ⟨rfl, by rw [← hll]; exact hk, rfl⟩])
    rwa [hll] at this
theorem RelX.append (hT : Tab.Ok P T) (h : RelX β lo μ F O K nx w) {tok ty sz n : Nat} (hk : lt K tok = some (ty, sz, n)) {l m : List (List AV)} {cv cx : Value} (hv : RelV F μ (.app tok l) cv) (hl : l.length = n) {t tyx : Nat} (hkd : (T.at t).kind = .slice ty)
    (hsz : (T.at ty).size = sz) (hz0 : (T.at ty).zero.length = sz) (hby : (T.at ty).bytes ≠ 0) (hzl : ∀ (i : Nat) c, l[i]? = some c → c.length = sz)
    (hx : (cx = .slice none 0 0 ∧ m = []) ∨ ∃ a cap cs, cx = .slice (some a) m.length cap ∧ Flat F sz m cs ∧ ∀ (j : Nat) v, cs[j]? = some v → w.cell? (a.add j) = some v)
    (hbytes : (l.length + m.length) * (T.at ty).bytes ≤ 140737488355328) :
    ∃ cv' w' μ' F', (Builtin.append_ #[t, t] tyx #[cv, cx]).run P w = .ok cv' w' ∧ RelV F' μ' (.app tok (l ++ m)) cv' ∧ RelX β lo μ' F' O ((tok, some (ty, sz, (l ++ m).length)) :: K) nx w' ∧ μ.le μ' ∧ (∀ a v, F a = some v → F' a = some v) ∧ KeepsOthers w w' := by
  obtain ⟨cv', w', μ', F', h1, h2, h3, h4, h5, h6, h7⟩ := append_tok (tyx := tyx) hT h.s hk hv hl hkd hsz hz0 hby hzl hx (by rw [← hl]; exact hbytes)
  exact ⟨cv', w', μ', F', h1, h2, ⟨h3, fun a v q => h5 a v (h.fa a v q), fun a v q hq => h.fb a v (h6 a v q hq) hq, h.m0.trans h4, fun a v q => h5 a v (h.f0 a v q), h.lo0, h.lo1, h.dzl⟩, h4, h5, h7⟩
/-- element by element of so many cells -/
def allSz (sz : Nat) (l : List (List AV)) : Prop := ∀ c ∈ l, c.length = sz
theorem allSz.get {sz : Nat} {l : List (List AV)} (h : allSz sz l) : ∀ (i : Nat) c, l[i]? = some c → c.length = sz := fun i c hi => h c (List.mem_of_getElem? hi)
theorem allSz.nil (sz : Nat) : allSz sz [] := fun c hc => by cases hc
theorem allSz.map {α : Type} {sz : Nat} {f : α → List AV} (h : ∀ x, (f x).length = sz) (xs : List α) : allSz sz (xs.map f) := fun c hc => by
  obtain ⟨x, _, rfl⟩ := List.mem_map.1 hc
  exact h x
theorem allSz.append {sz : Nat} {l m : List (List AV)} (h : allSz sz l) (k : allSz sz m) : allSz sz (l ++ m) := fun c hc => by
  rcases List.mem_append.1 hc with hc | hc
  · exact h c hc
  · exact k c hc
theorem run_append {ρ : Operand → Value} {o : Oper} {x y : Operand} {t : Nat} (ho : o.op = .call { callee := .builtin .append, args := #[x, y], argTypes := #[t, t] }) {cv' : Value} {w' : World} (h : (Builtin.append_ #[t, t] o.type #[ρ x, ρ y]).run P w = .ok cv' w') : (execOp ρ o).run P w = .ok (.value cv') w' := by
  obtain ⟨dst, op, ty, pos, after, gd⟩ := o
  dsimp only at ho h; subst ho
  simp [execOp, resolve, invoke, builtin, h]
theorem RelX.tokNil (h : RelX β lo μ F O K nx w) (ty : Nat) {sz : Nat} (hsz : 0 < sz) : RelX β lo (μ.add nx (.tk 0 (.slice none 0 0))) F O ((nx, some (ty, sz, 0)) :: K) (nx + 1) w ∧ μ.le (μ.add nx (.tk 0 (.slice none 0 0))) := by
  have hl := Pm.le_add (μ := μ) (id := nx) (.tk 0 (.slice none 0 0)) (h.s.o.fresh nx (Nat.le_refl _))
  exact ⟨⟨h.s.nil ty hsz, h.fa, h.fb, h.m0.trans hl, h.f0, h.lo0, Nat.le_succ_of_le h.lo1, h.dzl⟩, hl⟩
theorem WL_append (hT : Tab.Ok P T) {ops : Array Oper} {o : Oper} {rest : List Oper} {x y : Operand} {t : Nat} (ho : o.op = .call { callee := .builtin .append, args := #[x, y], argTypes := #[t, t] }) (hgd : o.guard = none)
    {tok : Nat} {l m : List (List AV)} (hx : strip (ev s.e x) = .app tok l) (hsx : sg (ev s.e x)) (hsy : sg (ev s.e y)) {ty sz : Nat} (hk : lt s.K tok = some (ty, sz, l.length)) (hkd : (T.at t).kind = .slice ty) (hty : (T.at ty).size = sz ∧ (T.at ty).zero.length = sz ∧ (T.at ty).bytes ≠ 0)
    (hm : srcA s.O (strip (ev s.e y)) = some m) (hlz : allSz sz l) (hmz : allSz sz m) (hmg : m.all (fun c => c.all grC) = true) (hbytes : (l.length + m.length) * (T.at ty).bytes ≤ 140737488355328)
    (hn : WL P nt lo ops rest ⟨wr nt s.e o.dst (.app tok (l ++ m)), s.O, (tok, some (ty, sz, (l ++ m).length)) :: s.K, s.nx⟩ Q) : WL P nt lo ops (o :: rest) s Q := by
  intro β a w ⟨hd, μ, F, hE, hX⟩
  unfold wpL
  rw [wanted_none hgd, if_pos rfl]
  left
  have hrx := (hE.ev x).strip hsx
  rw [hx] at hrx
  have hry := (hE.ev y).strip hsy
  obtain ⟨_, _, hszp, _⟩ := hX.s.t.tok tok ty sz _ hk
  obtain ⟨cv', w', μ', F', h1, h2, h3, h4, h5, h7⟩ := hX.append (tyx := o.type) hT hk hrx rfl hkd hty.1 hty.2.1 hty.2.2 hlz.get (src_run hX.s hry hm hszp hmz.get hmg) hbytes
  unfold Oper.wp
  rw [run_append ho h1]
  exact hn β _ _ (Rel.put (s := s) (hd.keep h7) (hE.mono h4 h5) h2 h3)
theorem WL_append_nil (hT : Tab.Ok P T) {ops : Array Oper} {o : Oper} {rest : List Oper} {x y : Operand} {t : Nat} (ho : o.op = .call { callee := .builtin .append, args := #[x, y], argTypes := #[t, t] }) (hgd : o.guard = none)
    {m : List (List AV)} (hx : strip (ev s.e x) = .nils) (hsx : sg (ev s.e x)) (hsy : sg (ev s.e y)) {ty sz : Nat} (hkd : (T.at t).kind = .slice ty) (hty : (T.at ty).size = sz ∧ (T.at ty).zero.length = sz ∧ (T.at ty).bytes ≠ 0) (hszp : 0 < sz)
    (hm : srcA s.O (strip (ev s.e y)) = some m) (hmz : allSz sz m) (hmg : m.all (fun c => c.all grC) = true) (hbytes : m.length * (T.at ty).bytes ≤ 140737488355328)
    (hn : WL P nt lo ops rest ⟨wr nt s.e o.dst (.app s.nx m), s.O, (s.nx, some (ty, sz, m.length)) :: s.K, s.nx + 1⟩ Q) : WL P nt lo ops (o :: rest) s Q := by
  intro β a w ⟨hd, μ, F, hE, hX⟩
  unfold wpL
  rw [wanted_none hgd, if_pos rfl]
  left
  have hrx := (hE.ev x).strip hsx
  rw [hx] at hrx
  have hcx : a.eval x = .slice none 0 0 := by generalize a.eval x = cx at hrx; cases hrx; rfl
  obtain ⟨hX1, hle1⟩ := hX.tokNil ty hszp
  have hry := ((hE.ev y).strip hsy).mono hle1 (fun _ _ q => q)
  have hrx1 : RelV F (μ.add s.nx (.tk 0 (.slice none 0 0))) (.app s.nx []) (a.eval x) := by
    rw [hcx]
    exact .app .ro0 (Pm.add_same _ _ _) (by simp) (fun _ => rfl)
  obtain ⟨cv', w', μ', F', h1, h2, h3, h4, h5, h7⟩ := hX1.append (tyx := o.type) hT (n := 0) (by rw [lt_cons, if_pos rfl]) hrx1 rfl hkd hty.1 hty.2.1 hty.2.2 (allSz.nil sz).get (src_run hX1.s hry hm hszp hmz.get hmg) (by simpa using hbytes)
  unfold Oper.wp
  rw [run_append ho h1]
  rw [List.nil_append] at h2 h3
  refine hn β _ _ (Rel.put (s := s) (hd.keep h7) (hE.mono (hle1.trans h4) h5) h2 ?_)
  refine ⟨⟨h3.s.o, ⟨fun id ty' sz' n hid => ?_, fun i i' ty1 sz1 ty2 sz2 m1 m2 bb bb' c1 c2 cap1 cap2 hne q1 q2 => ?_⟩⟩, h3.fa, h3.fb, h3.m0, h3.f0, h3.lo0, h3.lo1, h3.dzl⟩
  · refine h3.s.t.tok id ty' sz' n ?_
    rw [lt_cons] at hid ⊢
    split
    · rename_i he; rw [if_pos he] at hid; exact hid
    · rename_i he; rw [if_neg he] at hid; rw [lt_cons, if_neg he]; exact hid
  · have conv : ∀ {i : Nat} {z : Nat × Nat × Nat}, lt ((s.nx, some (ty, sz, m.length)) :: s.K) i = some z → lt ((s.nx, some (ty, sz, m.length)) :: (s.nx, some (ty, sz, 0)) :: s.K) i = some z := by
      intro i z hid
      rw [lt_cons] at hid ⊢
      split
      · rename_i he; rw [if_pos he] at hid; exact hid
      · rename_i he; rw [if_neg he] at hid; rw [lt_cons, if_neg he]; exact hid
    exact h3.s.t.apart i i' ty1 sz1 ty2 sz2 m1 m2 bb bb' c1 c2 cap1 cap2 hne (conv q1) (conv q2)
theorem WL_append_row (hT : Tab.Ok P T) {ops : Array Oper} {o : Oper} {rest : List Oper} {x y : Operand} {t : Nat} (ho : o.op = .call { callee := .builtin .append, args := #[x, y], argTypes := #[t, t] }) (hgd : o.guard = none)
    {id n : Nat} {ob : Ob} {l m : List (List AV)} (hx : strip (ev s.e x) = .row id 0 n) (hsx : sg (ev s.e x)) (hsy : sg (ev s.e y)) (hob : lk s.O id = some ob) (hnl : n = ob.es.length) (hfz : ob.fz ≤ n) (hl : ob.es.map (·.map demC) = l) (hlg : l.all (fun c => c.all grC) = true)
    (hkd : (T.at t).kind = .slice ob.ty) (hty : (T.at ob.ty).size = ob.sz ∧ (T.at ob.ty).zero.length = ob.sz ∧ (T.at ob.ty).bytes ≠ 0) (hszp : 0 < ob.sz)
    (hm : srcA ((id, none) :: s.O) (strip (ev s.e y)) = some m) (hlz : allSz ob.sz l) (hmz : allSz ob.sz m) (hmg : m.all (fun c => c.all grC) = true) (hbytes : (l.length + m.length) * (T.at ob.ty).bytes ≤ 140737488355328)
    (hn : WL P nt lo ops rest ⟨wr nt s.e o.dst (.app s.nx (l ++ m)), (id, none) :: s.O, (s.nx, some (ob.ty, ob.sz, (l ++ m).length)) :: s.K, s.nx + 1⟩ Q) : WL P nt lo ops (o :: rest) s Q := by
  intro β a w ⟨hd, μ, F, hE, hX⟩
  unfold wpL
  rw [wanted_none hgd, if_pos rfl]
  left
  have hrx := (hE.ev x).strip hsx
  rw [hx] at hrx
  obtain ⟨μ1, F1, hS1, hv1, hle1, hF1, hb1⟩ := hX.s.rowTok hob hrx hnl hfz hszp hl hlg
  have hX1 : RelX β lo μ1 F1 ((id, none) :: s.O) ((s.nx, some (ob.ty, ob.sz, n)) :: s.K) (s.nx + 1) w := ⟨hS1, fun a v q => hF1 a v (hX.fa a v q), fun a v q hq => hX.fb a v (hb1 a v q hq) hq, hX.m0.trans hle1, fun a v q => hF1 a v (hX.f0 a v q), hX.lo0, Nat.le_succ_of_le hX.lo1, hX.dzl⟩
  have hry := ((hE.ev y).strip hsy).mono hle1 hF1
  have hll : l.length = n := by rw [← hl, hnl]; simp
  obtain ⟨cv', w', μ', F', h1, h2, h3, h4, h5, h7⟩ := hX1.append (tyx := o.type) hT (by rw [lt_cons, if_pos rfl]) hv1 hll hkd hty.1 hty.2.1 hty.2.2 hlz.get (src_run hX1.s hry hm hszp hmz.get hmg) hbytes
  unfold Oper.wp
  rw [run_append ho h1]
  refine hn β _ _ (Rel.put (s := s) (hd.keep h7) (hE.mono (hle1.trans h4) (fun a v q => h5 a v (hF1 a v q))) h2 ?_)
  have conv : ∀ {i : Nat} {z : Nat × Nat × Nat}, lt ((s.nx, some (ob.ty, ob.sz, (l ++ m).length)) :: s.K) i = some z → lt ((s.nx, some (ob.ty, ob.sz, (l ++ m).length)) :: (s.nx, some (ob.ty, ob.sz, n)) :: s.K) i = some z := by
    intro i z hid
    rw [lt_cons] at hid ⊢
    split
    · rename_i he; rw [if_pos he] at hid; exact hid
    · rename_i he; rw [if_neg he] at hid; rw [lt_cons, if_neg he]; exact hid
  exact ⟨⟨h3.s.o, ⟨fun id ty' sz' n hid => h3.s.t.tok id ty' sz' n (conv hid), fun i i' ty1 sz1 ty2 sz2 m1 m2 bb bb' c1 c2 cap1 cap2 hne q1 q2 => h3.s.t.apart i i' ty1 sz1 ty2 sz2 m1 m2 bb bb' c1 c2 cap1 cap2 hne (conv q1) (conv q2)⟩⟩, h3.fa, h3.fb, h3.m0, h3.f0, h3.lo0, h3.lo1, h3.dzl⟩
end
end Go.AM
end
section
namespace Go.AM
open Go.RowKit
set_option linter.unusedVariables false
set_option linter.unusedSimpArgs false
section
variable {P : Program} {T : Tab} {nt lo : Nat} {s : St} {Q : Exit → St → Prop} {F : Mem} {μ : Pm} {n0 nx : Nat} {w0 w w' : World} {O : Objs} {K : Toks} {β : Bs}

theorem flat_get {sz : Nat} : ∀ {es : List (List AV)} (h : allSz sz es) (i j : Nat) (c : List AV) (v : AV), es[i]? = some c → c[j]? = some v → es.flatten[i * sz + j]? = some v
  | [], h, i, j, c, v, hi, hj => by simp at hi
  | c0 :: es, h, i, j, c, v, hi, hj => by
    have h0 : c0.length = sz := h c0 (by simp)
    rw [List.flatten_cons]
    cases i with
    | zero =>
      simp at hi; subst hi
      rw [Nat.zero_mul, Nat.zero_add, List.getElem?_append_left (List.getElem?_eq_some_iff.1 hj).1]
      exact hj
    | succ i =>
      have := flat_get (sz := sz) (es := es) (fun c hc => h c (by simp [hc])) i j c v (by simpa using hi) hj
      rw [List.getElem?_append_right (by rw [h0, Nat.add_mul]; omega), h0]
      have e : (i + 1) * sz + j - sz = i * sz + j := by rw [Nat.add_mul]; omega
      rw [e]; exact this
theorem flat_length {sz : Nat} : ∀ {es : List (List AV)} (h : allSz sz es), es.flatten.length = es.length * sz
  | [], _ => by simp
  | c0 :: es, h => by
    rw [List.flatten_cons, List.length_append, flat_length (sz := sz) (es := es) (fun c hc => h c (by simp [hc])), h c0 (by simp), List.length_cons, Nat.add_mul]; omega
theorem zeros_rel {z : Value} {sz : Nat} (hz : (zeroOf z).length = sz) (hsz : 0 < sz) (n m : Nat) (hm : m = n * sz) : RelA μ F (List.replicate n (zeroOf z)).flatten ((Array.range m).map (z.cells[· % z.cells.size]!)) := by
  subst hm
  have hzs : z.cells.size = sz := by rw [← hz]; simp [zeroOf]
  have hall : allSz sz (List.replicate n (zeroOf z)) := fun c hc => by rw [(List.mem_replicate.1 hc).2]; exact hz
  refine ⟨by rw [flat_length hall]; simp, fun j v hj => ?_⟩
  have hjl : j < n * sz := by
    have := (List.getElem?_eq_some_iff.1 hj).1
    rw [flat_length hall] at this; simpa using this
  have hr := zero_rel (F := F) (μ := μ) z
  have hmod : j % sz < sz := Nat.mod_lt _ hsz
  have hel : (zeroOf z)[j % sz]? = some v := by
    have hdiv : j / sz < n := by rw [Nat.div_lt_iff_lt_mul hsz]; exact hjl
    have h1 : (List.replicate n (zeroOf z))[j / sz]? = some (zeroOf z) := by simp [hdiv]
    have h2 : (zeroOf z)[j % sz]? = some (zeroOf z)[j % sz] := List.getElem?_eq_getElem (by rw [hz]; exact hmod)
    have := flat_get hall _ _ _ _ h1 h2
    have e : j / sz * sz + j % sz = j := by have := Nat.div_add_mod j sz; rw [Nat.mul_comm] at this; omega
    rw [e, hj] at this
    rw [h2, this]
  have := hr.2 _ v hel
  rw [Array.getD_eq_getD_getElem?, Array.getElem?_map, Array.getElem?_range]
  rw [if_pos hjl, hzs]
  show RelV F μ v (z.cells[j % sz]!)
  rw [Array.getD_eq_getD_getElem?] at this
  rw [getElem!_def]
  have hlt : j % sz < z.cells.size := by rw [hzs]; exact hmod
  simpa [hlt] using this
theorem rel_of_flat {es : List (List AV)} {sz : Nat} {cur : Array Value} (h : allSz sz es) (hr : RelA μ F es.flatten cur) (hone : es.all (fun c => c.all AV.one) = true) :
    ∀ (i : Nat) c (j : Nat) v, es[i]? = some c → c[j]? = some v → RelV F μ v (cur.getD (i * sz + j) undef) ∧ (cur.getD (i * sz + j) undef).oneCell' = true := by
  intro i c j v hi hj
  have := hr.2 _ v (flat_get h i j c v hi hj)
  exact ⟨this, this.one (List.all_eq_true.1 (List.all_eq_true.1 hone c (List.mem_of_getElem? hi)) v (List.mem_of_getElem? hj))⟩
theorem WL_buildSlice (hT : Tab.Ok P T) {ops : Array Oper} {o : Oper} {rest : List Oper} {t len : Nat} {ps : Array (Nat × Operand)} (ho : o.op = .buildSlice t len ps) (hgd : o.guard = none) {el sz : Nat} (hk : (T.at t).kind = .slice el) (hsz : (T.at el).size = sz) {z : List AV} (hz : (T.at el).zero = z) (hzl : z.length = sz) (hszp : 0 < sz)
    (hsg : sgs (ps.toList.map fun q => ev s.e q.2)) {es : List (List AV)} (hes : afill (fun i => some (i * sz, sz)) (List.replicate len z).flatten (ps.toList.map fun q => (q.1, strip (ev s.e q.2))) = some es.flatten) (hel : es.length = len) (hall : allSz sz es) (hone : es.all (fun c => c.all AV.one) = true) (hbig : len * sz ≤ 16777216)
    (hn : WL P nt lo ops rest ⟨wr nt s.e o.dst (.row s.nx 0 len), (s.nx, some ⟨el, sz, 0, es⟩) :: s.O, s.K, s.nx + 1⟩ Q) : WL P nt lo ops (o :: rest) s Q := by
  intro β a w ⟨hd, μ, F, hE, hX⟩
  unfold wpL
  rw [wanted_none hgd, if_pos rfl]
  left
  obtain ⟨ti, hti, h1, _⟩ := hT.info (Tab.ne_none hk (by simp))
  rw [h1] at hk
  have hu := kind_slice hk
  obtain ⟨ei, hei, _, hes', _, ⟨zv, hzv, hzz⟩, _⟩ := hT.info (t := el) (Tab.ne_none' (by omega))
  rw [hzz] at hz
  rw [hsz] at hes'
  subst hz
  have hall0 : RelA μ F (List.replicate len (zeroOf zv)).flatten ((Array.range (len * sz)).map (zv.cells[· % zv.cells.size]!)) := zeros_rel hzl hszp len _ rfl
  obtain ⟨B, hB, hBr⟩ := afill_run (ps.toList.map fun q => (q.1, strip (ev s.e q.2))) (ps.toList.map fun q => (q.1, a.eval q.2)) _ _ _ hall0 hes (by simp) (fun j p q hp hq => by
    rw [List.getElem?_map] at hp hq
    cases hx : ps.toList[j]? with
    | none => simp [hx] at hp
    | some x =>
      simp [hx] at hp hq; subst hp; subst hq
      refine ⟨rfl, (hE.ev x.2).strip (sgs_mem hsg _ (List.mem_map.2 ⟨x, List.mem_of_getElem? hx, rfl⟩))⟩)
  have hBs : B.size = len * sz := by rw [hBr.1, flat_length hall, hel]
  have hmaxl : len ≤ maxLen := by
    have : len * 1 ≤ len * sz := Nat.mul_le_mul_left _ hszp
    show len ≤ 9223372036854775807; omega
  have hblk := Go.heap_alloc_new w (.cells B el)
  obtain ⟨hX', hle⟩ := hX.newOb (o := ⟨el, sz, 0, es⟩) (below_alloc w (.cells B el)) (Nat.le_refl _) hblk (by rw [hBs, hel]; exact Nat.le_refl _) hall.get (rel_of_flat hall hBr hone)
  have hrun : (execOp a.eval o).run P w = .ok (.value (.slice (some ⟨w.heap.size, 0, none⟩) len len)) (w.alloc (.cells B el)) := by
    obtain ⟨dst, op, ty, pos, after, gd⟩ := o
    dsimp only at ho; subst ho
    have hps : (ps.map fun (i, x) => (i, a.eval x)).toList = ps.toList.map fun q => (q.1, a.eval q.2) := by simp
    have hbig' : ¬ (len * sz > 16777216) := by omega
    by_cases h0 : len * sz = 0
    · have hl0 : len = 0 := by
        rcases Nat.mul_eq_zero.1 h0 with h | h
        · exact h
        · omega
      have hB' : Instr.fill (fun i => some (i * sz, sz)) #[] (ps.toList.map fun q => (q.1, a.eval q.2)) = some B := by
        rw [← hB]; subst hl0; simp [Array.range_zero']
      simp only [execOp, Instr.buildSlice, Sem.run_bind, run_und hu, Result.andThen_ok, run_size hei, Sem.run_ite, if_neg hbig', if_pos h0, Sem.run_pure, ← hes', hps]
      subst hl0
      simp [hB', newRow, Array.range_zero']
    · simp only [execOp, Instr.buildSlice, Sem.run_bind, run_und hu, Result.andThen_ok, run_size hei, Sem.run_ite, if_neg hbig', if_neg h0, Sem.run_pure, zeroValue, run_info hei, hzv, ← hes', hps, hB]
      simp [newRow]
  unfold Oper.wp
  rw [hrun]
  refine hn β _ _ (Rel.put (s := s) (hd.keep (KeepsOthers.alloc _ _)) (hE.mono hle (fun _ _ q => q)) ?_ hX')
  exact .row (Pm.add_same _ _ _) (Nat.le_refl _) hmaxl (fun _ => ⟨by simp, by rw [hBs]; simp⟩)
theorem WL_makeSlice (hT : Tab.Ok P T) {ops : Array Oper} {o : Oper} {rest : List Oper} {t : Nat} {x y : Operand} (ho : o.op = .makeSlice t x y) (hgd : o.guard = none) {el sz : Nat} (hk : (T.at t).kind = .slice el) (hsz : (T.at el).size = sz) {z : List AV} (hz : (T.at el).zero = z) (hzl : z.length = sz) (hszp : 0 < sz) (hone : z.all AV.one = true)
    {kl kc : IntKind} {l c : Int} (hx : strip (ev s.e x) = .int kl l) (hsx : sg (ev s.e x)) (hy : strip (ev s.e y) = .int kc c) (hsy : sg (ev s.e y)) (h0 : 0 ≤ l) (hlc : l ≤ c) (hbytes : ((T.at el).bytes : Int) * c ≤ 281474976710656) (h63 : c ≤ 9223372036854775807)
    (hn : WL P nt lo ops rest ⟨wr nt s.e o.dst (.row s.nx 0 l.toNat), (s.nx, some ⟨el, sz, 0, List.replicate l.toNat z⟩) :: s.O, s.K, s.nx + 1⟩ Q) : WL P nt lo ops (o :: rest) s Q := by
  intro β a w ⟨hd, μ, F, hE, hX⟩
  unfold wpL
  rw [wanted_none hgd, if_pos rfl]
  left
  obtain ⟨ti, hti, h1, _⟩ := hT.info (Tab.ne_none hk (by simp))
  rw [h1] at hk
  have hu := kind_slice hk
  obtain ⟨ei, hei, _, hes', heb, ⟨zv, hzv, hzz⟩, _⟩ := hT.info (t := el) (Tab.ne_none' (by omega))
  rw [hzz] at hz
  rw [hsz] at hes'
  rw [heb] at hbytes
  subst hz
  have hrx := (hE.ev x).strip hsx
  rw [hx] at hrx
  have hry := (hE.ev y).strip hsy
  rw [hy] at hry
  have hcx : a.eval x = .int kl l := by generalize a.eval x = cx at hrx; cases hrx; rfl
  have hcy : a.eval y = .int kc c := by generalize a.eval y = cx at hry; cases hry; rfl
  have hr := run_make (P := P) w t el ei zv hu hei hzv kl kc l c h0 hlc hbytes h63
  have hall : allSz sz (List.replicate l.toNat (zeroOf zv)) := fun c hc => by rw [(List.mem_replicate.1 hc).2]; exact hzl
  have hzr := zeros_rel (F := F) (μ := μ) hzl hszp c.toNat (c.toNat * ei.size) (by rw [hes'])
  have hmade : madeCells zv.cells (c.toNat * ei.size) = (Array.range (c.toNat * ei.size)).map (zv.cells[· % zv.cells.size]!) := rfl
  rw [hmade] at hr
  generalize hcur : (Array.range (c.toNat * ei.size)).map (zv.cells[· % zv.cells.size]!) = cur at hr hzr
  have hcs : cur.size = c.toNat * sz := by rw [← hcur, hes']; simp
  have hlt : l.toNat ≤ c.toNat := by omega
  have hblk := Go.heap_alloc_new w (.cells cur el)
  have hall2 : allSz sz (List.replicate c.toNat (zeroOf zv)) := fun c hc => by rw [(List.mem_replicate.1 hc).2]; exact hzl
  have hrel := rel_of_flat (F := F) (μ := μ) hall2 hzr (by simp only [List.all_eq_true]; intro q hq; rw [(List.mem_replicate.1 hq).2]; exact List.all_eq_true.1 hone)
  obtain ⟨hX', hle⟩ := hX.newOb (o := ⟨el, sz, 0, List.replicate l.toNat (zeroOf zv)⟩) (below_alloc w (.cells cur el)) (Nat.le_refl _) hblk (by rw [hcs]; simp; exact Nat.mul_le_mul_right _ hlt) hall.get (fun i q j v hi hj => by
    refine hrel i q j v ?_ hj
    have := List.getElem?_eq_some_iff.1 hi
    obtain ⟨e1, e2⟩ := this
    simp at e1 e2
    have : i < c.toNat := by omega
    simp [this, e2])
  have hrun : (execOp a.eval o).run P w = .ok (.value (.slice (some ⟨w.heap.size, 0, none⟩) l.toNat c.toNat)) (w.alloc (.cells cur el)) := by
    obtain ⟨dst, op, ty, pos, after, gd⟩ := o
    dsimp only at ho; subst ho
    simp [execOp, hcx, hcy, hr]
  unfold Oper.wp
  rw [hrun]
  refine hn β _ _ (Rel.put (s := s) (hd.keep (KeepsOthers.alloc _ _)) (hE.mono hle (fun _ _ q => q)) ?_ hX')
  exact .row (Pm.add_same _ _ _) hlt (by show c.toNat ≤ 9223372036854775807; omega) (fun _ => ⟨by simp, by rw [hcs]; simp⟩)
end
end Go.AM
end
