/- The law WitnessMost answers true, whatever its arguments: part 2 of 6 of its proof (the machine on trees, the functions' contracts). -/
import Derived.Test.YtkcigpfdlplbdaaProg
import Derived.KernelRfl
import Derived.ProofKit
import Derived.OpenShut
import Derived.SizedLaws
import Derived.Test.YtkcigpfdlplbdaaZWitnessMost0
section
namespace Go.AM
open Go.RowKit
set_option linter.unusedVariables false
set_option linter.unusedSimpArgs false
section
variable {P : Program} {T : Tab} {nt lo : Nat} {ops : Array Oper} {O : Objs} {K : Toks} {nx : Nat} {Q : Exit → St → Prop}
/-- an operation that is picked, all orders: the two forms side by side -/
def wpO (ro : Option Nat) (P : Program) (ops : Array Oper) (Q : Exit → Act → World → Prop) (i : Nat) (K : Act → World → Prop) (a : Act) (w : World) : Prop :=
  match ops[i]? with
  | none => K a w
  | some o => if Region.wanted o (yielded ops a.tmps) then o.wp P a w K Q ∨ o.wpIn (Fw ro) 0 P a w K Q else K (a.put o.dst undef) w
def wpY (ro : Option Nat) (P : Program) (ops : Array Oper) (Q : Exit → Act → World → Prop) : Nat → Array Bool → Act → World → Prop
  | 0, listed, a, w => Region.ready .any ops listed = [] ∧ Q .normal a w
  | fuel + 1, listed, a, w => (Region.ready .any ops listed = [] → Q .normal a w) ∧ ∀ i ∈ Region.ready .any ops listed, wpO ro P ops Q i (wpY ro P ops Q fuel (listed.setIfInBounds i true)) a w
theorem nodef_at {ops : Array Oper} (h : nodef ops.toList = true) {i : Nat} {o : Oper} (hi : ops[i]? = some o) : ∀ c, o.op ≠ .defer c := fun c hc => by
  have := List.all_eq_true.1 h o (List.mem_of_getElem? (by simpa using hi))
  rw [hc] at this; cases this
theorem wpY_in {ro : Option Nat} {P : Program} {ops : Array Oper} {Q : Exit → Act → World → Prop} (hnd : nodef ops.toList = true) : ∀ (m : Nat) (listed : Array Bool) (a : Act) (w : World), wpY ro P ops Q m listed a w → wpAnyIn (Fw ro) 0 P .any ops Q m listed a w
  | 0, listed, a, w, h => h
  | m + 1, listed, a, w, h => by
    refine ⟨h.1, fun i hi => ?_⟩
    have h2 := h.2 i hi
    have ih := fun a w => wpY_in (ro := ro) (P := P) (ops := ops) (Q := Q) hnd m (listed.setIfInBounds i true) a w
    unfold wpO at h2
    unfold wpOpIn
    cases ho : ops[i]? with
    | none => rw [ho] at h2; exact ih _ _ h2
    | some o =>
      rw [ho] at h2
      dsimp only at h2 ⊢
      split at h2
      · rename_i hw
        rw [if_pos hw]
        rcases h2 with h2 | h2
        · exact Oper.wpIn_mono ih (wp_in (nodef_at hnd ho) h2)
        · exact Oper.wpIn_mono ih h2
      · rename_i hw
        rw [if_neg hw]
        exact ⟨fun _ _ => trivial, ih _ _ h2⟩
/-- whatever the memory, over what it looks at: the operation yields v, and the state stands -/
def Yd (P : Program) (nt lo : Nat) (ops : Array Oper) (O : Objs) (K : Toks) (nx : Nat) (o : Oper) (v : AV) (e : Env) : Prop := ∀ β a w (e' : Env), (∀ t ∈ o.looksAt ops, get e' t = get e t) → Rel β nt lo ⟨e', O, K, nx⟩ a w →
  (Region.wanted o (yielded ops a.tmps) = true ∧ ∀ (K' : Act → World → Prop) (Q' : Exit → Act → World → Prop), (∀ cv w', Rel β nt lo ⟨wr nt e' o.dst v, O, K, nx⟩ (a.put o.dst cv) w' → K' (a.put o.dst cv) w') → o.wp P a w K' Q') ∨
  (Region.wanted o (yielded ops a.tmps) = false ∧ Rel β nt lo ⟨wr nt e' o.dst v, O, K, nx⟩ (a.put o.dst undef) w)
def EqE (e e' : Env) : Prop := ∀ t, get e t = get e' t
theorem Rel.eqE {β : Bs} {e e' : Env} (h : EqE e e') {a : Act} {w : World} (hr : Rel β nt lo ⟨e, O, K, nx⟩ a w) : Rel β nt lo ⟨e', O, K, nx⟩ a w := by
  obtain ⟨hd, μ, F, hE, hX⟩ := hr
  exact ⟨hd, μ, F, ⟨hE.size, fun t => by rw [← h t]; exact hE.rel t⟩, hX⟩
theorem get_wr (nt : Nat) (e : Env) (d : Option Nat) (v : AV) (t : Nat) : get (wr nt e d v) t = if d = some t ∧ t < nt then v else get e t := by
  cases d with
  | none => simp [wr]
  | some d =>
    simp only [wr]
    by_cases hd : d < nt
    · have : Nat.blt d nt = true := by simpa [Nat.blt_eq] using hd
      rw [this, cond_true, get_cons]
      by_cases h : d = t
      · subst h; simp [hd]
      · rw [if_neg h, if_neg (by simp [h])]
    · have hb : Nat.blt d nt = false := by
        cases hb : Nat.blt d nt with
        | false => rfl
        | true => exact absurd (by simpa [Nat.blt_eq] using hb) hd
      rw [hb, cond_false, if_neg]
      rintro ⟨h1, h2⟩; cases h1; omega
theorem EqE.wr {e e' : Env} (h : EqE e e') (d : Option Nat) (v : AV) : EqE (wr nt e d v) (wr nt e' d v) := fun t => by rw [get_wr, get_wr, h t]
theorem wr_comm (e : Env) {d d' : Option Nat} (v v' : AV) (h : ∀ x, d = some x → d' ≠ some x) : EqE (wr nt (wr nt e d v) d' v') (wr nt (wr nt e d' v') d v) := fun t => by
  simp only [get_wr]
  by_cases h1 : d' = some t ∧ t < nt
  · have : ¬ (d = some t ∧ t < nt) := fun h2 => h t h2.1 h1.1
    rw [if_pos h1, if_neg this, if_pos h1]
  · rw [if_neg h1, if_neg h1]
theorem Yd.eqOn {o : Oper} {v : AV} {e e' : Env} (h : Yd P nt lo ops O K nx o v e) (he : ∀ t ∈ o.looksAt ops, get e' t = get e t) : Yd P nt lo ops O K nx o v e' := fun β a w e2 h2 hr => h β a w e2 (fun t ht => (h2 t ht).trans (he t ht)) hr
/-- the first m0 operations, which are quiet, are done -/
def allQ (m0 : Nat) (listed : Array Bool) : Bool := (List.range m0).all fun k => listed.getD k false
theorem allQ_false {m0 i : Nat} {listed : Array Bool} (hi : i < m0) (h : listed.getD i true = false) : allQ m0 listed = false := by
  cases ha : allQ m0 listed with
  | false => rfl
  | true =>
    have := List.all_eq_true.1 ha i (by simpa using hi)
    rw [Array.getD_eq_getD_getElem?] at this h
    cases hg : listed[i]? with
    | none => rw [hg] at h; cases h
    | some b => rw [hg] at this h; simp at this h; rw [this] at h; cases h
/-- whatever order is picked, until the quiet operations are done -/
def AnyE (P : Program) (nt lo : Nat) (ops : Array Oper) (O : Objs) (K : Toks) (nx m0 : Nat) (tail : Array Bool → Env → Prop) : Nat → Array Bool → Env → Prop
  | 0, listed, e => allQ m0 listed = true ∧ tail listed e
  | m + 1, listed, e => (allQ m0 listed = true → tail listed e) ∧ (allQ m0 listed = false → Region.ready .any ops listed ≠ [] ∧ ∀ i ∈ Region.ready .any ops listed, ∃ o v, ops[i]? = some o ∧ Yd P nt lo ops O K nx o v e ∧ AnyE P nt lo ops O K nx m0 tail m (listed.setIfInBounds i true) (wr nt e o.dst v))
variable {m0 : Nat}
theorem AnyE.eqE {tail : Array Bool → Env → Prop} (ht : ∀ l e e', EqE e e' → tail l e → tail l e') : ∀ (m : Nat) (listed : Array Bool) {e e' : Env}, EqE e e' → AnyE P nt lo ops O K nx m0 tail m listed e → AnyE P nt lo ops O K nx m0 tail m listed e'
  | 0, l, e, e', he, h => ⟨h.1, ht l e e' he h.2⟩
  | m + 1, l, e, e', he, h => ⟨fun ha => ht l e e' he (h.1 ha), fun ha => ⟨(h.2 ha).1, fun i hi => by
    obtain ⟨o, v, h1, h2, h3⟩ := (h.2 ha).2 i hi
    exact ⟨o, v, h1, h2.eqOn (fun t _ => (he t).symm), AnyE.eqE ht m _ (he.wr o.dst v) h3⟩⟩⟩
/-- the operations behind the first m0 wait for all of these -/
def Loud (ops : Array Oper) (m0 : Nat) : Prop := ∀ k ok, ops[k]? = some ok → m0 ≤ k → ∀ i, i < m0 → ∃ e ∈ ok.after, Region.binds .any e = true ∧ e.on = i
theorem ready_quiet (hL : Loud ops m0) {listed : Array Bool} {i j : Nat} (hi : i < m0) (hun : listed.getD i true = false) (hj : j ∈ Region.ready .any ops listed) : j < m0 := by
  obtain ⟨_, oj, hoj, hall⟩ := mem_ready.1 hj
  rcases Nat.lt_or_ge j m0 with h | h
  · exact h
  · obtain ⟨e, he, hb, rfl⟩ := hL j oj hoj h i hi
    have := hall e he hb
    rw [Array.getD_eq_getD_getElem?] at this hun
    cases hg : listed[e.on]? with
    | none => rw [hg] at hun; cases hun
    | some b => rw [hg] at this hun; simp at this hun; rw [this] at hun; cases hun
theorem AnyE_first {tail : Array Bool → Env → Prop} (ht : ∀ l e e', EqE e e' → tail l e → tail l e') (hL : Loud ops m0) {i : Nat} (him : i < m0) {oi : Oper} {v : AV} (hi : ops[i]? = some oi) :
    ∀ (m : Nat) (listed : Array Bool) (e : Env),
      (∀ j oj, ops[j]? = some oj → j ≠ i → listed.getD j true = false → (∀ e ∈ oj.after, Region.binds .any e = true → e.on ≠ i) → oi.apart ops oj = true) →
      i ∈ Region.ready .any ops listed → Yd P nt lo ops O K nx oi v e →
      AnyE P nt lo ops O K nx m0 tail m (listed.setIfInBounds i true) (wr nt e oi.dst v) → AnyE P nt lo ops O K nx m0 tail (m + 1) listed e := by
  intro m
  induction m with
  | zero =>
    intro listed e _ hr hy H
    have hun := (mem_ready.1 hr).1
    refine ⟨fun ha => (by rw [allQ_false him hun] at ha; cases ha), fun _ => ⟨fun h => (by rw [h] at hr; cases hr), fun j hj => ?_⟩⟩
    by_cases hji : j = i
    · subst hji; exact ⟨oi, v, hi, hy, H⟩
    · have hjm := ready_quiet hL him hun hj
      have hju := (mem_ready.1 (ready_mono hj hji)).1
      have := H.1
      rw [allQ_false hjm hju] at this; cases this
  | succ m ih =>
    intro listed e hfree hr hy H
    have hun := (mem_ready.1 hr).1
    refine ⟨fun ha => (by rw [allQ_false him hun] at ha; cases ha), fun _ => ⟨fun h => (by rw [h] at hr; cases hr), fun j hj => ?_⟩⟩
    by_cases hji : j = i
    · subst hji; exact ⟨oi, v, hi, hy, H⟩
    · have hjm := ready_quiet hL him hun hj
      have hju := (mem_ready.1 (ready_mono hj hji)).1
      obtain ⟨oj, vj, h1, h2, h3⟩ := (H.2 (allQ_false hjm hju)).2 j (ready_mono hj hji)
      obtain ⟨hjun, oj', hoj, hall⟩ := mem_ready.1 hj
      rw [h1] at hoj; cases hoj
      have hnot : ∀ e ∈ oj.after, Region.binds .any e = true → e.on ≠ i := fun e he hb heq => by
        have h1 := hall e he hb
        have h0 := (mem_ready.1 hr).1
        rw [heq] at h1
        rcases Nat.lt_or_ge i listed.size with h' | h'
        · simp [h'] at h0 h1; rw [h0] at h1; cases h1
        · simp [Array.getElem?_eq_none h'] at h1
      have hap := hfree j oj h1 hji hjun hnot
      obtain ⟨p1, p2, p3⟩ := Oper.apart_spec hap
      have hyj : Yd P nt lo ops O K nx oj vj e := h2.eqOn (fun t ht' => by
        rw [get_wr, if_neg]
        rintro ⟨hd, _⟩; exact p1 t hd ht')
      have hyi : Yd P nt lo ops O K nx oi v (wr nt e oj.dst vj) := hy.eqOn (fun t ht' => by
        rw [get_wr, if_neg]
        rintro ⟨hd, _⟩; exact p3 t hd ht')
      refine ⟨oj, vj, h1, hyj, ih (listed.setIfInBounds j true) (wr nt e oj.dst vj) (fun k ok hk hki hun hno => ?_) (ready_mono hr (Ne.symm hji)) hyi ?_⟩
      · refine hfree k ok hk hki ?_ hno
        by_cases hjk : j = k
        · subst hjk; exact hjun
        · rw [getD_set_ne true hjk] at hun; exact hun
      · rw [Array.setIfInBounds_comm _ _ hji]
        exact AnyE.eqE ht m _ (wr_comm e v vj (fun x hx => p2 x hx)) h3
theorem AnyE.sound {tail : Array Bool → Env → Prop} {R : Exit → Act → World → Prop} {β : Bs} {ft : Nat} (hT : ∀ listed e, tail listed e → ∀ a w, Rel β nt lo ⟨e, O, K, nx⟩ a w → ∀ f, ft ≤ f → wpY β.lp P ops R f listed a w) :
    ∀ (m : Nat) (listed : Array Bool) (e : Env), AnyE P nt lo ops O K nx m0 tail m listed e → ∀ a w, Rel β nt lo ⟨e, O, K, nx⟩ a w → wpY β.lp P ops R (m + ft) listed a w
  | 0, listed, e, h, a, w, hr => hT _ _ h.2 a w hr _ (by omega)
  | m + 1, listed, e, h, a, w, hr => by
    cases ha : allQ m0 listed with
    | true => exact hT _ _ (h.1 ha) a w hr _ (by omega)
    | false =>
      have e1 : m + 1 + ft = (m + ft) + 1 := by omega
      rw [e1]
      refine ⟨fun h0 => absurd h0 (h.2 ha).1, fun i hi => ?_⟩
      obtain ⟨o, v, h1, h2, h3⟩ := (h.2 ha).2 i hi
      have ih := AnyE.sound hT m _ _ h3
      unfold wpO
      simp only [h1]
      rcases h2 β a w e (fun _ _ => rfl) hr with ⟨hw, hx⟩ | ⟨hw, hx⟩
      · rw [if_pos hw]
        exact .inl (hx _ _ (fun cv w' hr' => ih _ _ hr'))
      · rw [if_neg (by simp [hw])]
        exact ih _ _ hx
/-- the text's order -/
def LexE (P : Program) (nt lo : Nat) (ops : Array Oper) (O : Objs) (K : Toks) (nx : Nat) : List Oper → Env → (Env → Prop) → Prop
  | [], e, G => G e
  | o :: rest, e, G => ∃ v, Yd P nt lo ops O K nx o v e ∧ LexE P nt lo ops O K nx rest (wr nt e o.dst v) G
/-- the Bool over the region: its first m0 operations may be taken in the text's order, the others come in it -/
def tB (ops : Array Oper) : Nat → Nat → Array Bool → Bool
  | 0, _, listed => (Region.ready .any ops listed).isEmpty
  | f + 1, k, listed => Region.ready .any ops listed == [k] && tB ops f (k + 1) (listed.setIfInBounds k true)
def qB (ops : Array Oper) (f : Nat) : Nat → Nat → Array Bool → Bool
  | 0, k, listed => tB ops f k listed
  | m + 1, k, listed => (Region.ready .any ops listed).contains k && Region.free .any ops listed k && qB ops f m (k + 1) (listed.setIfInBounds k true)
def loudB (ops : Array Oper) (m0 : Nat) : Bool := (ops.toList.drop m0).all fun o => (List.range m0).all fun i => o.after.toList.any fun e => Region.binds .any e && e.on == i
theorem loud_of (h : loudB ops m0 = true) : Loud ops m0 := by
  intro k ok hk hm i hi
  have h1 := List.all_eq_true.1 h ok (by
    have : (ops.toList.drop m0)[k - m0]? = some ok := by rw [List.getElem?_drop]; have : m0 + (k - m0) = k := by omega
                                                         rw [this]; simpa using hk
    exact List.mem_of_getElem? this)
  have h2 := List.all_eq_true.1 h1 i (by simpa using hi)
  obtain ⟨e, he, hb⟩ := List.any_eq_true.1 h2
  simp only [Bool.and_eq_true, beq_iff_eq] at hb
  exact ⟨e, by simpa using he, hb.1, hb.2⟩
theorem tail_run {ro : Option Nat} {R : Exit → Act → World → Prop} : ∀ (l : List Oper) (k : Nat) (listed : Array Bool) (a : Act) (w : World), (∀ j, l[j]? = ops[k + j]?) → tB ops l.length k listed = true → wpL ro P ops R l a w → ∀ f, l.length ≤ f → wpY ro P ops R f listed a w
  | [], k, listed, a, w, _, hB, h, f, hf => by
    have hr : Region.ready .any ops listed = [] := by simpa [tB] using hB
    cases f with
    | zero => exact ⟨hr, h⟩
    | succ f => exact ⟨fun _ => h, fun i hi => by rw [hr] at hi; cases hi⟩
  | o :: l, k, listed, a, w, hl, hB, h, f, hf => by
    simp only [List.length_cons, tB, Bool.and_eq_true, beq_iff_eq] at hB
    obtain ⟨hr, hB⟩ := hB
    obtain ⟨f, rfl⟩ : ∃ f', f = f' + 1 := ⟨f - 1, by simp at hf; omega⟩
    refine ⟨fun h0 => (by rw [hr] at h0; cases h0), fun i hi => ?_⟩
    rw [hr] at hi
    obtain rfl := List.mem_singleton.1 hi
    have h0 : ops[i]? = some o := by simpa using (hl 0).symm
    have ih := fun a w h => tail_run (ro := ro) (R := R) l (i + 1) (listed.setIfInBounds i true) a w (fun j => by have := hl (j + 1); simpa [Nat.add_assoc, Nat.add_comm 1 j] using this) hB h f (by simp at hf; omega)
    unfold wpL at h
    unfold wpO
    simp only [h0]
    split at h
    · rename_i hw
      rw [if_pos hw]
      rcases h with h | h
      · exact .inl (Oper.wp_mono ih h)
      · exact .inr (Oper.wpIn_mono ih h)
    · rename_i hw
      rw [if_neg hw]
      exact ih _ _ h
theorem AnyE_lex {tail : Array Bool → Env → Prop} (ht : ∀ l e e', EqE e e' → tail l e → tail l e') (hL : Loud ops m0) {f : Nat} {G : Env → Prop} (hG : ∀ listed e, tB ops f m0 listed = true → G e → allQ m0 listed = true → tail listed e) : ∀ (l : List Oper) (k : Nat) (listed : Array Bool) (e : Env), (∀ j, j < l.length → l[j]? = ops[k + j]?) → k + l.length = m0 → m0 ≤ listed.size →
    (∀ j, j < k → listed.getD j false = true) → qB ops f l.length k listed = true → LexE P nt lo ops O K nx l e G → AnyE P nt lo ops O K nx m0 tail l.length listed e
  | [], k, listed, e, _, hk, _, hall, hB, h => by
    have ha : allQ m0 listed = true := List.all_eq_true.2 (fun j hj => hall j (by simp at hj hk; omega))
    have hk' : k = m0 := by simpa using hk
    subst hk'
    exact ⟨ha, hG listed e hB h ha⟩
  | o :: l, k, listed, e, hl, hk, hs, hall, hB, h => by
    have h0 : ops[k]? = some o := by simpa using (hl 0 (by simp)).symm
    simp only [List.length_cons, qB, Bool.and_eq_true] at hB
    obtain ⟨⟨hr, hf⟩, hB'⟩ := hB
    obtain ⟨v, hy, hK⟩ := h
    simp only [List.length_cons] at hk
    refine AnyE_first ht hL (by omega) h0 l.length listed e (Region.free_spec h0 hf) (by simpa using hr) hy
      (AnyE_lex ht hL hG l (k + 1) _ _ (fun j hj => by have := hl (j + 1) (by simpa using hj); simpa [Nat.add_assoc, Nat.add_comm 1 j] using this) (by omega) (by simpa using hs) (fun j hj => ?_) hB' hK)
    by_cases hjk : j = k
    · subst hjk
      have : j < listed.size := by omega
      simp [Array.getD, this]
    · exact getD_set_true (hall j (by omega))
/-- a region that draws: the first m0 operations quiet, the others in order -/
theorem W_draw {s : St} {id : Nat} {l : List Oper} (m0 : Nat) (hm : P.follows .mixedOrders = true) (hnd : nodef l = true) (hle : m0 ≤ l.length) (hL : loudB l.toArray m0 = true) (hB : qB l.toArray (l.length - m0) m0 0 (Array.replicate l.length false) = true)
    (h : LexE P nt lo l.toArray s.O s.K s.nx (l.take m0) s.e (fun e => WL P nt lo l.toArray (l.drop m0) ⟨e, s.O, s.K, s.nx⟩ Q)) : W P nt lo (.region id l.toArray true) s Q := by
  intro β a w hr
  refine wpIn_region_any hm (wpY_in (by simpa using hnd) _ _ _ _ ?_)
  have hdraw : Rel β nt lo s a { w with drawn := w.drawn + 1 } := by
    obtain ⟨hd, μ, F, hE, hX⟩ := hr
    have hb : Below w.heap.size w { w with drawn := w.drawn + 1 } := ⟨rfl, rfl, rfl, Nat.le_refl _, fun _ _ => rfl⟩
    exact ⟨hd.keep ⟨Nat.le_refl _, fun _ _ h _ => h⟩, μ, F, hE, ⟨hX.s.keep hb, hX.fa, hX.fb, hX.m0, hX.f0, hX.lo0, hX.lo1, hX.dzl⟩⟩
  let tail : Array Bool → Env → Prop := fun listed e => tB l.toArray (l.length - m0) m0 listed = true ∧ ∀ e', EqE e e' → WL P nt lo l.toArray (l.drop m0) ⟨e', s.O, s.K, s.nx⟩ Q
  have hget : ∀ j, j < (l.take m0).length → (l.take m0)[j]? = l.toArray[0 + j]? := by
    intro j hj
    have h1 : j < m0 := by rw [List.length_take] at hj; omega
    simp [List.getElem?_take, h1]
  have key := AnyE_lex (P := P) (nt := nt) (lo := lo) (ops := l.toArray) (O := s.O) (K := s.K) (nx := s.nx) (tail := tail) (fun l e e' he h => ⟨h.1, fun e2 h2 => h.2 e2 (fun t => (he t).trans (h2 t))⟩) (loud_of hL) (f := l.length - m0)
    (G := fun e => WL P nt lo l.toArray (l.drop m0) ⟨e, s.O, s.K, s.nx⟩ Q) (fun listed e h1 h2 _ => ⟨h1, fun e' he β a w hr => h2 β a w (hr.eqE (fun t => (he t).symm))⟩)
    (l.take m0) 0 (Array.replicate l.length false) s.e hget (by simp; omega) (by simp; exact hle) (fun j hj => by omega)
    (by rw [List.length_take, Nat.min_eq_left hle]; exact hB) h
  have hft : ∀ listed e, tail listed e → ∀ a w, Rel β nt lo ⟨e, s.O, s.K, s.nx⟩ a w → ∀ f, l.length - m0 ≤ f → wpY β.lp P l.toArray (fun e a' w' => ∃ s', Q e s' ∧ Rel β nt lo s' a' w') f listed a w := by
    intro listed e ⟨h1, h2⟩ a w hr f hf
    have hlen : (l.drop m0).length = l.length - m0 := by simp
    exact tail_run (l.drop m0) m0 listed a w (fun j => by simp [List.getElem?_drop]) (by rw [hlen]; exact h1) (h2 e (fun _ => rfl) β a w hr) f (by rw [hlen]; exact hf)
  have := AnyE.sound hft _ _ _ key a _ hdraw
  have hsz : (l.take m0).length + (l.length - m0) = l.toArray.size := by simp; omega
  rw [hsz] at this
  have e1 : Array.replicate l.toArray.size false = Array.replicate l.length false := by simp
  rw [e1]
  exact this
end
end Go.AM
end
section
namespace Go.AM
open Go.RowKit
set_option linter.unusedVariables false
set_option linter.unusedSimpArgs false
section
variable {P : Program} {T : Tab} {nt lo : Nat} {ops : Array Oper} {O : Objs} {K : Toks} {nx : Nat} {Q : Exit → St → Prop} {G : Env → Prop} {e : Env}
theorem ave_congr {e e' : Operand → AV} {op : Op} (h : ∀ x ∈ op.operands, e x = e' x) : ave T O e op = ave T O e' op := by
  by_cases hp : ∃ x a b, op = .pick x a b
  · obtain ⟨x, a, b, rfl⟩ := hp
    simp only [ave]
    rw [h x (by simp [Op.operands]), h a (by simp [Op.operands]), h b (by simp [Op.operands])]
  · have key : ∀ e : Operand → AV, ave T O e op = (match aval T O (fun x => strip (e x)) op with
      | some (p, v) => some (sgs (op.operands.toList.map e) ∧ p, v)
      | none => none) := by
      intro e
      cases op <;> first | rfl | exact absurd ⟨_, _, _, rfl⟩ hp
    rw [key, key, aval_congr (e := fun x => strip (e x)) (e' := fun x => strip (e' x)) (fun x hx => by rw [h x hx]), List.map_congr_left (fun x hx => h x (by simpa using hx))]
theorem ev_on {o : Oper} {e e' : Env} (h : ∀ t ∈ o.looksAt ops, get e' t = get e t) : ∀ x ∈ o.op.operands, ev e' x = ev e x := by
  intro x hx
  cases x with
  | tmp t => exact h t (List.mem_append_left _ (List.mem_filterMap.2 ⟨.tmp t, by simpa using hx, rfl⟩))
  | _ => rfl
theorem guard_on {o : Oper} {e e' : Env} {j d : Nat} {want : Bool} (hg : o.guard = some (j, want)) (hd : (ops[j]?).bind (·.dst) = some d) (h : ∀ t ∈ o.looksAt ops, get e' t = get e t) : get e' d = get e d :=
  h d (List.mem_append_right _ (by rw [hg]; simp [hd]))
theorem LexE_nil (h : G e) : LexE P nt lo ops O K nx [] e G := h
theorem LexE_val (hT : Tab.Ok P T) {o : Oper} {rest : List Oper} {c : Prop} {v : AV} (hg : o.guard = none) (h : ave T O (ev e) o.op = some (c, v)) (hc : c) (hn : LexE P nt lo ops O K nx rest (wr nt e o.dst v) G) : LexE P nt lo ops O K nx (o :: rest) e G := by
  refine ⟨v, fun β a w e' he hr => .inl ⟨wanted_none hg _, fun K' Q' hk => ?_⟩, hn⟩
  obtain ⟨hd, μ, F, hE, hX⟩ := hr
  have h' : ave T O (ev e') o.op = some (c, v) := by rw [← h]; exact ave_congr (ev_on he)
  obtain ⟨cv, hrun, hv⟩ := ave_sound hT (fun x => hE.ev x) hX.s.o o h' hc
  unfold Oper.wp
  rw [hrun]
  exact hk cv w (Rel.put (s := ⟨e', O, K, nx⟩) hd hE hv hX)
theorem LexE_valg (hT : Tab.Ok P T) {o : Oper} {rest : List Oper} {v : AV} {j d : Nat} {want g : Bool} (hg : o.guard = some (j, want)) (hd : (ops[j]?).bind (·.dst) = some d) (hdn : Nat.blt d nt = true) (hgc : gcond want (get e d) = some g)
    (h : g = true → Av T O (ev e) o.op v) (hn : LexE P nt lo ops O K nx rest (wr nt e o.dst (.gd g v)) G) : LexE P nt lo ops O K nx (o :: rest) e G := by
  refine ⟨.gd g v, fun β a w e' he hr => ?_, hn⟩
  obtain ⟨hdf, μ, F, hE, hX⟩ := hr
  have hw := wanted_gcond hg hd hdn hE (by rw [guard_on hg hd he]; exact hgc)
  cases g with
  | true =>
    refine .inl ⟨hw, fun K' Q' hk => ?_⟩
    obtain ⟨c, h1, hc⟩ := h rfl
    have h' : ave T O (ev e') o.op = some (c, v) := by rw [← h1]; exact ave_congr (ev_on he)
    obtain ⟨cv, hrun, hv⟩ := ave_sound hT (fun x => hE.ev x) hX.s.o o h' hc
    unfold Oper.wp
    rw [hrun]
    exact hk cv w (Rel.put (s := ⟨e', O, K, nx⟩) hdf hE (.gd (fun _ => hv) (fun h => by cases h)) hX)
  | false => exact .inr ⟨hw, Rel.put (s := ⟨e', O, K, nx⟩) hdf hE (.gd (fun h => by cases h) (fun _ => rfl)) hX⟩
theorem aCall_congr {e e' : Operand → AV} {c : Call} (h : ∀ x ∈ c.operands, e x = e' x) : aCall e c = aCall e' c := by
  obtain ⟨callee, args, ats⟩ := c
  unfold aCall
  have ha : args.toList.map (fun x => strip (e x)) = args.toList.map (fun x => strip (e' x)) := List.map_congr_left (fun x hx => by rw [h x (by simp [Call.operands]; exact .inr (by simpa using hx))])
  have ho : ({ callee := callee, args := args, argTypes := ats } : Call).operands.toList.map e = ({ callee := callee, args := args, argTypes := ats } : Call).operands.toList.map e' := List.map_congr_left (fun x hx => h x (by simpa using hx))
  cases callee with
  | value f =>
    dsimp only
    rw [h f (by simp [Call.operands]), ha, ho]
  | _ => rfl
theorem LexE_call {o : Oper} {rest : List Oper} {c : Call} (ho : o.op = .call c) (hgd : o.guard = none) {g : FuncId} {ags : List AV} {p : Prop} (h : aCall (ev e) c = some (p, g, ags)) (hp : p)
    (hg : (ags.map demA).all grA = true) {r : AV} (hr : Ok P g (ags.map demA) r) (hn : LexE P nt lo ops O K nx rest (wr nt e o.dst r) G) : LexE P nt lo ops O K nx (o :: rest) e G := by
  refine ⟨r, fun β a w e' he hr' => .inl ⟨wanted_none hgd _, fun K' Q' hk => ?_⟩, hn⟩
  obtain ⟨hd, μ, F, hE, hX⟩ := hr'
  have h' : aCall (ev e') c = some (p, g, ags) := by
    rw [← h]; refine aCall_congr (fun x hx => ev_on he x ?_)
    rw [ho]; exact hx
  exact call_run (s := ⟨e', O, K, nx⟩) hd hE hX ho h' hp hg hr (fun cv F' w' hd' hv hE' hX' => hk cv w' (Rel.put (s := ⟨e', O, K, nx⟩) hd' hE' (hv.mono (Pm.le0 _) (fun _ _ q => q)) hX'))
theorem LexE_callg {o : Oper} {rest : List Oper} {c : Call} (ho : o.op = .call c) {j d : Nat} {want gb : Bool} (hgd : o.guard = some (j, want)) (hdj : (ops[j]?).bind (·.dst) = some d) (hdn : Nat.blt d nt = true) (hgc : gcond want (get e d) = some gb)
    {g : FuncId} {ags : List AV} {p : Prop} (h : aCall (ev e) c = some (p, g, ags)) (hp : gb = true → p)
    (hg : (ags.map demA).all grA = true) {r : AV} (hr : gb = true → Ok P g (ags.map demA) r) (hn : LexE P nt lo ops O K nx rest (wr nt e o.dst (.gd gb r)) G) : LexE P nt lo ops O K nx (o :: rest) e G := by
  refine ⟨.gd gb r, fun β a w e' he hr' => ?_, hn⟩
  obtain ⟨hd, μ, F, hE, hX⟩ := hr'
  have hw := wanted_gcond hgd hdj hdn hE (by rw [guard_on hgd hdj he]; exact hgc)
  cases gb with
  | true =>
    refine .inl ⟨hw, fun K' Q' hk => ?_⟩
    have h' : aCall (ev e') c = some (p, g, ags) := by
      rw [← h]; refine aCall_congr (fun x hx => ev_on he x ?_)
      rw [ho]; exact hx
    exact call_run (s := ⟨e', O, K, nx⟩) hd hE hX ho h' (hp rfl) hg (hr rfl) (fun cv F' w' hd' hv hE' hX' => hk cv w' (Rel.put (s := ⟨e', O, K, nx⟩) hd' hE' (.gd (fun _ => hv.mono (Pm.le0 _) (fun _ _ q => q)) (fun h => by cases h)) hX'))
  | false => exact .inr ⟨hw, Rel.put (s := ⟨e', O, K, nx⟩) hd hE (.gd (fun h => by cases h) (fun _ => rfl)) hX⟩
end
end Go.AM
end
section
namespace Go.AM
open Go.RowKit
set_option linter.unusedVariables false
set_option linter.unusedSimpArgs false
section
variable {P : Program} {T : Tab} {nt lo : Nat} {ops : Array Oper} {O : Objs} {K : Toks} {nx : Nat} {Q : Exit → St → Prop} {G : Env → Prop} {e : Env} {rest : List Oper} {op : Op} {ty : TypeId} {pos : String} {after : Array Edge} {c : Prop} {v : AV} {d : Nat}
theorem wr_some {nt d : Nat} {e : Env} {v : AV} (h : Nat.blt d nt = true) : wr nt e (some d) v = (d, v) :: e := by simp only [wr, h, cond_true]
theorem av {e : Operand → AV} (h : ave T O e op = some (c, v)) (hc : c) : Av T O e op v := ⟨c, h, hc⟩
/-- a value -/
theorem L_v (hT : Tab.Ok P T) (h : Av T O (ev e) op v) (hd : Nat.blt d nt = true) (hn : WL P nt lo ops rest ⟨(d, v) :: e, O, K, nx⟩ Q) : WL P nt lo ops (⟨some d, op, ty, pos, after, none⟩ :: rest) ⟨e, O, K, nx⟩ Q :=
  WL_val hT rfl h.choose_spec.1 h.choose_spec.2 (by dsimp only; rw [wr_some hd]; exact hn)
/-- a value under a condition -/
theorem L_g (hT : Tab.Ok P T) {j dj : Nat} {want g : Bool} (hj : (ops[j]?).bind (·.dst) = some dj) (hg : gcond want (get e dj) = some g) (h : g = true → Av T O (ev e) op v) (hd : Nat.blt d nt = true) (hdj : Nat.blt dj nt = true)
    (hn : WL P nt lo ops rest ⟨(d, .gd g v) :: e, O, K, nx⟩ Q) : WL P nt lo ops (⟨some d, op, ty, pos, after, some (j, want)⟩ :: rest) ⟨e, O, K, nx⟩ Q :=
  WL_valg hT rfl hj hdj hg h (by dsimp only; rw [wr_some hd]; exact hn)
theorem L_call {cl : Call} {f : FuncId} {ags bs : List AV} {r : AV} (h : aCall (ev e) cl = some (c, f, ags)) (hd : Nat.blt d nt = true) (hc : c) (hb : ags.map demA = bs) (hg : bs.all grA = true) (hr : Ok P f bs r)
    (hn : WL P nt lo ops rest ⟨(d, r) :: e, O, K, nx⟩ Q) : WL P nt lo ops (⟨some d, .call cl, ty, pos, after, none⟩ :: rest) ⟨e, O, K, nx⟩ Q := by
  subst hb
  exact WL_call rfl rfl h hc hg hr (by dsimp only; rw [wr_some hd]; exact hn)
theorem L_callg {cl : Call} {f : FuncId} {ags bs : List AV} {r : AV} {j dj : Nat} {want g : Bool} (hj : (ops[j]?).bind (·.dst) = some dj) (hgc : gcond want (get e dj) = some g) (h : aCall (ev e) cl = some (c, f, ags)) (hd : Nat.blt d nt = true) (hdj : Nat.blt dj nt = true) (hc : g = true → c) (hb : ags.map demA = bs) (hg : bs.all grA = true) (hr : g = true → Ok P f bs r)
    (hn : WL P nt lo ops rest ⟨(d, .gd g r) :: e, O, K, nx⟩ Q) : WL P nt lo ops (⟨some d, .call cl, ty, pos, after, some (j, want)⟩ :: rest) ⟨e, O, K, nx⟩ Q := by
  subst hb
  exact WL_callg rfl rfl hj hdj hgc h hc hg hr (by dsimp only; rw [wr_some hd]; exact hn)
theorem L_box (hT : Tab.Ok P T) {t : Nat} {x : Operand} {cs : List AV} {n : Nat} (hv : strip (ev e x) = .agg cs) (hone : cs.all AV.one = true) (hn' : cs.length = n) (hd : Nat.blt d nt = true) (hsg : sg (ev e x))
    (hn : WL P nt lo ops rest ⟨(d, .ptr nx 0 0) :: e, (nx, some ⟨t, n, 0, [cs]⟩) :: O, K, nx + 1⟩ Q) : WL P nt lo ops (⟨some d, .box t x, ty, pos, after, none⟩ :: rest) ⟨e, O, K, nx⟩ Q :=
  WL_box hT rfl rfl hv hsg rfl rfl hone hn' (by dsimp only; rw [wr_some hd]; exact hn)
theorem L_box1 (hT : Tab.Ok P T) {t : Nat} {x : Operand} (hv : strip (ev e x) = v) (hone : v.one = true) (hd : Nat.blt d nt = true) (hsg : sg (ev e x))
    (hn : WL P nt lo ops rest ⟨(d, .ptr nx 0 0) :: e, (nx, some ⟨t, 1, 0, [[v]]⟩) :: O, K, nx + 1⟩ Q) : WL P nt lo ops (⟨some d, .box t x, ty, pos, after, none⟩ :: rest) ⟨e, O, K, nx⟩ Q := by
  have hcs : v.cells = [v] := by cases v <;> first | rfl | simp [AV.one] at hone
  have hpl : v.plain = true := by cases v <;> first | exact hone | rfl
  exact WL_box hT rfl rfl hv hsg hcs hpl (by simp [hone]) rfl (by dsimp only; rw [wr_some hd]; exact hn)
theorem L_alloc (hT : Tab.Ok P T) {t : Nat} {z : List AV} {n : Nat} (hz : (T.at t).zero = z) (hone : z.all AV.one = true) (hn' : z.length = n) (hzn : Nat.beq (T.at t).size 0 = false) (hd : Nat.blt d nt = true)
    (hn : WL P nt lo ops rest ⟨(d, .ptr nx 0 0) :: e, (nx, some ⟨t, n, 0, [z]⟩) :: O, K, nx + 1⟩ Q) : WL P nt lo ops (⟨some d, .alloc t, ty, pos, after, none⟩ :: rest) ⟨e, O, K, nx⟩ Q :=
  WL_alloc hT rfl rfl hz (by intro h; rw [h] at hzn; simp at hzn) hone hn' (by dsimp only; rw [wr_some hd]; exact hn)
/-- a store of one cell, of many -/
theorem L_store (hT : Tab.Ok P T) {t : Nat} {x y : Operand} {id i j : Nat} (hx : strip (ev e x) = .ptr id i j) {oty osz ofz : Nat} {oes : List (List AV)} (hob : lk O id = some ⟨oty, osz, ofz, oes⟩) (hv : strip (ev e y) = v) {cs : List AV} (hcs : v.cells = cs) (hp : v.plain = true) (hone : cs.all AV.one = true) {es' : List (List AV)} (hes : setEl oes i j cs = es')
    (hk : (Nat.beq (T.at t).size cs.length && !(Nat.beq cs.length 0) && Nat.ble (j + cs.length) osz) = true) (hi : Nat.blt i oes.length = true) (hf : Nat.ble ofz i = true) (hs : sg (ev e x) ∧ sg (ev e y))
    (hn : WL P nt lo ops rest ⟨e, (id, some ⟨oty, osz, ofz, es'⟩) :: O, K, nx⟩ Q) : WL P nt lo ops (⟨none, .store t x y, ty, pos, after, none⟩ :: rest) ⟨e, O, K, nx⟩ Q := by
  simp only [Bool.and_eq_true, Bool.not_eq_true'] at hk
  obtain ⟨⟨k1, k2⟩, k3⟩ := hk
  refine WL_store hT rfl rfl hx hs.1 hob (fun F μ cv h => hv ▸ h) hs.2 hcs hp hone ⟨Nat.eq_of_beq_eq_true k1, fun h => by rw [h] at k2; simp at k2⟩ (by simpa [Nat.blt_eq] using hi) (Nat.le_of_ble_eq_true k3) (Nat.le_of_ble_eq_true hf) hes hn
/-- a nil slice is stored: an empty row -/
theorem L_store_nil (hT : Tab.Ok P T) {t : Nat} {x y : Operand} {id i j : Nat} (hx : strip (ev e x) = .ptr id i j) {oty osz ofz : Nat} {oes : List (List AV)} (hob : lk O id = some ⟨oty, osz, ofz, oes⟩) (hv : strip (ev e y) = .nils) {es' : List (List AV)} (hes : setEl oes i j [.ro []] = es')
    (hk : (Nat.beq (T.at t).size 1 && Nat.ble (j + 1) osz) = true) (hi : Nat.blt i oes.length = true) (hf : Nat.ble ofz i = true) (hs : sg (ev e x) ∧ sg (ev e y))
    (hn : WL P nt lo ops rest ⟨e, (id, some ⟨oty, osz, ofz, es'⟩) :: O, K, nx⟩ Q) : WL P nt lo ops (⟨none, .store t x y, ty, pos, after, none⟩ :: rest) ⟨e, O, K, nx⟩ Q := by
  simp only [Bool.and_eq_true] at hk
  refine WL_store hT rfl rfl hx hs.1 hob (v := .ro []) (fun F μ cv h => ?_) hs.2 rfl rfl rfl ⟨Nat.eq_of_beq_eq_true hk.1, fun h => by cases h⟩ (by simpa [Nat.blt_eq] using hi) (Nat.le_of_ble_eq_true hk.2) (Nat.le_of_ble_eq_true hf) hes hn
  rw [hv] at h; cases h; exact .ro0
/-! the same in a region that draws -/
theorem E_v (hT : Tab.Ok P T) (h : Av T O (ev e) op v) (hd : Nat.blt d nt = true) (hn : LexE P nt lo ops O K nx rest ((d, v) :: e) G) : LexE P nt lo ops O K nx (⟨some d, op, ty, pos, after, none⟩ :: rest) e G :=
  LexE_val hT rfl h.choose_spec.1 h.choose_spec.2 (by dsimp only; rw [wr_some hd]; exact hn)
theorem E_g (hT : Tab.Ok P T) {j dj : Nat} {want g : Bool} (hj : (ops[j]?).bind (·.dst) = some dj) (hg : gcond want (get e dj) = some g) (h : g = true → Av T O (ev e) op v) (hd : Nat.blt d nt = true) (hdj : Nat.blt dj nt = true)
    (hn : LexE P nt lo ops O K nx rest ((d, .gd g v) :: e) G) : LexE P nt lo ops O K nx (⟨some d, op, ty, pos, after, some (j, want)⟩ :: rest) e G :=
  LexE_valg hT rfl hj hdj hg h (by dsimp only; rw [wr_some hd]; exact hn)
theorem E_call {cl : Call} {f : FuncId} {ags bs : List AV} {r : AV} (h : aCall (ev e) cl = some (c, f, ags)) (hd : Nat.blt d nt = true) (hc : c) (hb : ags.map demA = bs) (hg : bs.all grA = true) (hr : Ok P f bs r)
    (hn : LexE P nt lo ops O K nx rest ((d, r) :: e) G) : LexE P nt lo ops O K nx (⟨some d, .call cl, ty, pos, after, none⟩ :: rest) e G := by
  subst hb
  exact LexE_call rfl rfl h hc hg hr (by dsimp only; rw [wr_some hd]; exact hn)
theorem E_callg {cl : Call} {f : FuncId} {ags bs : List AV} {r : AV} {j dj : Nat} {want g : Bool} (hj : (ops[j]?).bind (·.dst) = some dj) (hgc : gcond want (get e dj) = some g) (h : aCall (ev e) cl = some (c, f, ags)) (hd : Nat.blt d nt = true) (hdj : Nat.blt dj nt = true) (hc : g = true → c) (hb : ags.map demA = bs) (hg : bs.all grA = true) (hr : g = true → Ok P f bs r)
    (hn : LexE P nt lo ops O K nx rest ((d, .gd g r) :: e) G) : LexE P nt lo ops O K nx (⟨some d, .call cl, ty, pos, after, some (j, want)⟩ :: rest) e G := by
  subst hb
  exact LexE_callg rfl rfl hj hdj hgc h hc hg hr (by dsimp only; rw [wr_some hd]; exact hn)
theorem fn_ok (hT : Tab.Ok P T) {f : FuncId} {fn : Func} (hf : P.funcs[f]? = some fn) {c : Code} (hb : fn.body = some c) {args : List AV} {r : AV} {n : Nat} (hn : fn.ntmps = n) {e : Env} (he : enum 0 args = e) (hnm : (fn.name == "runtime.NumGoroutine") = false) (hal : Nat.ble args.length n = true)
    (h : W P n 0 c ⟨e, [], [], 0⟩ (Ends T fn r)) : Ok P f args r := by
  subst hn he
  exact Ok.of_W hT hf hb hnm (Nat.le_of_ble_eq_true hal) h
/-- the end: what the results read -/
theorem ends1 {T : Tab} {fn : Func} {ex : Exit} {s : St} {t : Nat} (hx : ex = .normal ∨ ex = .ret) (hr : fn.results.toList = [.tmp t]) {v r : AV} (hv : get s.e t = v) (hd : dem v = r) (hg : gr r = true) : Ends T fn r ex s :=
  ⟨hx, True ∧ True, [v], by rw [hr]; simp only [resList, resOne, hv], ⟨trivial, trivial⟩, hd, hg⟩
end
end Go.AM
end
section
namespace Go.AM
open Go.RowKit
set_option linter.unusedVariables false
set_option linter.unusedSimpArgs false
section
variable {P : Program} {T : Tab} {nt lo : Nat} {s s1 s2 M : St} {Q : Exit → St → Prop}
theorem blockQ_hit {id : Nat} (h : Q .normal s) : blockQ id Q (.exit id) s := by show (if id = id then Q .normal s else Q (.exit id) s); rw [if_pos rfl]; exact h
theorem blockQ_miss {id id' : Nat} (hn : Nat.beq id' id = false) (h : Q (.exit id') s) : blockQ id Q (.exit id') s := by
  show (if id' = id then Q .normal s else Q (.exit id') s)
  rw [if_neg (by rintro rfl; simp at hn)]; exact h
/-- what is known of the slots -/
def sub : Env → Env → Prop
  | [], _ => True
  | (t, v) :: r, e => get e t = v ∧ sub r e
theorem sub_get : ∀ {m e : Env}, sub m e → ∀ t, get m t = .und ∨ get m t = get e t
  | [], e, _, t => .inl rfl
  | (x, v) :: r, e, h, t => by
    rw [get_cons]
    split
    · rename_i he; subst he; exact .inr h.1.symm
    · exact sub_get h.2 t
theorem le_env {e m : Env} {O : Objs} {K : Toks} {nx : Nat} (h : sub m e) : St.le ⟨e, O, K, nx⟩ ⟨m, O, K, nx⟩ lo nt := by
  intro β a w ⟨hd, μ, F, hE, hX⟩
  refine ⟨hd, μ, F, ⟨hE.size, fun t => ?_⟩, hX⟩
  rcases sub_get h t with h1 | h1
  · rw [h1]; exact .und _
  · show RelV F μ (get m t) _
    rw [h1]; exact hE.rel t
theorem St.le.refl (s : St) : s.le s lo nt := fun _ _ _ h => h
theorem St.le.trans {a b c : St} (h : a.le b lo nt) (k : b.le c lo nt) : a.le c lo nt := fun β x w hr => k β x w (h β x w hr)
/-- objects that aren't looked at any more -/
def subO : Objs → Objs → Prop
  | [], _ => True
  | (id, o) :: r, O => (o = none ∨ lk O id = o) ∧ subO r O
theorem subO_get : ∀ {m O : Objs}, subO m O → ∀ id o, lk m id = some o → lk O id = some o
  | [], O, _, id, o, h => by simp [lk] at h
  | (x, v) :: r, O, h, id, o, ho => by
    rw [lk_cons] at ho
    split at ho
    · rename_i he; subst he
      rcases h.1 with h1 | h1
      · rw [h1] at ho; cases ho
      · rw [h1]; exact ho
    · exact subO_get h.2 id o ho
def subK : Toks → Toks → Prop
  | [], _ => True
  | (id, o) :: r, K => (o = none ∨ lt K id = o) ∧ subK r K
theorem subK_get : ∀ {m K : Toks}, subK m K → ∀ id o, lt m id = some o → lt K id = some o
  | [], K, _, id, o, h => by simp [lt] at h
  | (x, v) :: r, K, h, id, o, ho => by
    rw [lt_cons] at ho
    split at ho
    · rename_i he; subst he
      rcases h.1 with h1 | h1
      · rw [h1] at ho; cases ho
      · rw [h1]; exact ho
    · exact subK_get h.2 id o ho
/-- the numbers that a value names are below n -/
def AV.lt (n : Nat) : AV → Bool
  | .ptr id _ _ | .row id _ _ | .app id _ => Nat.blt id n
  | .yl _ | .int .. | .bool _ | .str _ | .nilp | .nils | .nilf | .ro _ | .rptr _ | .und => true
  | .fn _ [] [] => true
  | .pin _ (.rptr _) => true
  | _ => false
def AV.ltA (n : Nat) : AV → Bool
  | .agg l => l.all (AV.lt n)
  | .tup l => l.all (AV.lt n)
  | .fn _ fs cs => fs.all (AV.lt n) && cs.all (AV.lt n)
  | v => v.lt n
def Pm.cut (μ : Pm) (n : Nat) : Pm := fun i => if i < n then μ i else none
theorem Pm.cut_lt (μ : Pm) {n i : Nat} (h : i < n) : μ.cut n i = μ i := if_pos h
theorem RelV.cutv {F : Mem} {μ : Pm} {n : Nat} {v : AV} {cv : Value} (h : RelV F μ v cv) (hl : v.lt n = true) : RelV F (μ.cut n) v cv := by
  cases h with
  | ptr h => exact .ptr (by simp only [AV.lt, Nat.blt_eq] at hl; rw [Pm.cut_lt _ hl]; exact h)
  | row h hn hm ha => exact .row (by simp only [AV.lt, Nat.blt_eq] at hl; rw [Pm.cut_lt _ hl]; exact h) hn hm ha
  | app h ht h1 h2 => exact .app h (by simp only [AV.lt, Nat.blt_eq] at hl; rw [Pm.cut_lt _ hl]; exact ht) h1 h2
  | und => exact .und _
  | int k n => exact .int k n
  | bool b => exact .bool b
  | str s => exact .str s
  | nilp => exact .nilp
  | nils => exact .nils
  | nilf => exact .nilf
  | yl l => exact .yl l
  | ro0 => exact .ro0
  | ro cv hz hc hr hn hm ha => exact .ro cv hz hc hr hn hm ha
  | rptr cv hc hr => exact .rptr cv hc hr
  | @fn _ f fs cs A C hA hC ha hc =>
    cases fs with
    | cons x l => cases cs <;> simp [AV.lt] at hl
    | nil =>
      cases cs with
      | cons x l => simp [AV.lt] at hl
      | nil => exact .fn hA hC (fun j v hj => by simp at hj) (fun j v hj => by simp at hj)
  | agg hA h => simp [AV.lt] at hl
  | tup hA h => simp [AV.lt] at hl
  | gd h h2 => simp [AV.lt] at hl
  | @pin _ v _ h => cases v <;> first | (simp [AV.lt] at hl; done) | (cases h with | rptr cv hc hr => exact .pin (.rptr cv hc hr))
theorem RelV.cutA {F : Mem} {μ : Pm} {n : Nat} {v : AV} {cv : Value} (h : RelV F μ v cv) (hl : v.ltA n = true) : RelV F (μ.cut n) v cv := by
  have gen : (∀ l, v ≠ .agg l) → (∀ l, v ≠ .tup l) → (∀ f fs cs, v ≠ .fn f fs cs) → RelV F (μ.cut n) v cv := by
    intro h1 h2 h3
    refine h.cutv ?_
    cases v <;> first | exact hl | exact absurd rfl (h1 _) | exact absurd rfl (h2 _) | exact absurd rfl (h3 _ _ _)
  cases h with
  | agg hA h => exact .agg hA (fun j v hj => (h j v hj).cutv (List.all_eq_true.1 hl v (List.mem_of_getElem? hj)))
  | tup hA h => exact .tup hA (fun j v hj => (h j v hj).cutv (List.all_eq_true.1 hl v (List.mem_of_getElem? hj)))
  | fn hA hC ha hc =>
    simp only [AV.ltA, Bool.and_eq_true] at hl
    exact .fn hA hC (fun j v hj => (ha j v hj).cutv (List.all_eq_true.1 hl.1 v (List.mem_of_getElem? hj))) (fun j v hj => (hc j v hj).cutv (List.all_eq_true.1 hl.2 v (List.mem_of_getElem? hj)))
  | _ => exact gen (fun _ h => by cases h) (fun _ h => by cases h) (fun _ _ _ h => by cases h)
def ltE (n : Nat) (m : Env) : Bool := m.all fun p => p.2.ltA n
def ltO (n : Nat) : Objs → Prop
  | [] => True
  | (id, o) :: r => (Nat.blt id n = true ∧ ∀ ob, o = some ob → ∀ c ∈ ob.es, ∀ v ∈ c, v.lt n = true) ∧ ltO n r
theorem ltO_get {n : Nat} : ∀ {m : Objs}, ltO n m → ∀ id o, lk m id = some o → id < n ∧ ∀ c ∈ o.es, ∀ v ∈ c, v.lt n = true
  | [], _, id, o, h => by simp [lk] at h
  | (x, v) :: r, h, id, o, ho => by
    rw [lk_cons] at ho
    split at ho
    · rename_i he; subst he; exact ⟨by have := h.1.1; simpa [Nat.blt_eq] using this, h.1.2 o ho⟩
    · exact ltO_get h.2 id o ho
def ltK (n : Nat) (m : Toks) : Bool := m.all fun p => Nat.blt p.1 n
theorem ltK_get {n : Nat} : ∀ {m : Toks}, ltK n m = true → ∀ id o, lt m id = some o → id < n
  | [], _, id, o, h => by simp [lt] at h
  | (x, v) :: r, h, id, o, ho => by
    simp only [ltK, List.all_cons, Bool.and_eq_true] at h
    rw [lt_cons] at ho
    split at ho
    · rename_i he; subst he; simpa [Nat.blt_eq] using h.1
    · exact ltK_get h.2 id o ho
/-- objects, slots left behind; the numbers from n on are free again -/
theorem le_all {e m : Env} {O O' : Objs} {K K' : Toks} {nx n : Nat} (h : sub m e) (hO : subO O' O) (hK : subK K' K) (hn : Nat.ble n nx = true) (hlo : Nat.ble lo n = true) (hme : ltE n m = true) (hmO : ltO n O') (hmK : ltK n K' = true) : St.le ⟨e, O, K, nx⟩ ⟨m, O', K', n⟩ lo nt := by
  intro β a w ⟨hd, μ, F, hE, hX⟩
  have hnn := Nat.le_of_ble_eq_true hn
  have hll := Nat.le_of_ble_eq_true hlo
  have hin : ∀ {i : Nat}, i < n → μ.cut n i = μ i := fun {i} hi => Pm.cut_lt μ hi
  refine ⟨hd, μ.cut n, F, ⟨hE.size, fun t => ?_⟩, ⟨⟨⟨hX.s.o.below, hX.s.o.base, fun id (hid : n ≤ id) => if_neg (by omega), fun id o ho => ?_, fun id id' o o' b cs sz b' cs' sz' hne ho ho' hm hm' => ?_, hX.s.o.mem, fun id o b cs sz ho hm => ?_⟩, ⟨fun id ty sz k hid => ?_, fun i i' ty1 sz1 ty2 sz2 m1 m2 bb bb' c1 c2 cap1 cap2 hne q1 q2 hm1 hm2 => ?_⟩⟩, hX.fa, hX.fb, ⟨fun id b cs sz hi => ?_, fun id k cv hi => ?_⟩, hX.f0, hX.lo0, hll, hX.dzl⟩⟩
  · show RelV F _ (get m t) _
    rcases sub_get h t with h1 | h1
    · rw [h1]; exact .und _
    · have hr := hE.rel t
      rw [← h1] at hr
      by_cases hmem : ∃ v, (t, v) ∈ m ∧ get m t = v
      · obtain ⟨v, h2, h3⟩ := hmem
        refine hr.cutA ?_
        rw [h3]
        exact List.all_eq_true.1 hme (t, v) h2
      · have : get m t = .und := by
          clear hr h1 hme h
          induction m with
          | nil => rfl
          | cons p r ih =>
            obtain ⟨x, v⟩ := p
            rw [get_cons] at hmem ⊢
            split
            · rename_i he; subst he; exact absurd ⟨v, by simp, by simp⟩ hmem
            · rename_i he
              refine ih ?_
              rintro ⟨v', h2, h3⟩
              exact hmem ⟨v', by simp [h2], by rw [if_neg he]; exact h3⟩
        rw [this]; exact .und _
  · obtain ⟨h1, h2⟩ := ltO_get hmO id o ho
    obtain ⟨b, cs, cur, k1, k2, k3, k4, k5, k6, k7⟩ := hX.s.o.obj id o (subO_get hO id o ho)
    exact ⟨b, cs, cur, by rw [hin h1]; exact k1, k2, k3, k4, k5, k6, fun i c j v p1 p2 => ⟨(k7 i c j v p1 p2).1.cutv (h2 c (List.mem_of_getElem? p1) v (List.mem_of_getElem? p2)), (k7 i c j v p1 p2).2⟩⟩
  · rw [hin (ltO_get hmO id o ho).1] at hm
    rw [hin (ltO_get hmO id' o' ho').1] at hm'
    exact hX.s.o.apart id id' o o' _ _ _ _ _ _ hne (subO_get hO id o ho) (subO_get hO id' o' ho') hm hm'
  · rw [hin (ltO_get hmO id o ho).1] at hm
    exact hX.s.o.froz id o _ _ _ (subO_get hO id o ho) hm
  · have hid' := ltK_get hmK id _ hid
    obtain ⟨cv, k1, k2, k3⟩ := hX.s.t.tok id ty sz k (subK_get hK id _ hid)
    refine ⟨cv, by rw [hin hid']; exact k1, k2, ?_⟩
    rcases k3 with k3 | ⟨b1, cap, cur1, h4, h5, h50, h6, h7, h8, h9, h10, h11⟩
    · exact .inl k3
    · refine .inr ⟨b1, cap, cur1, h4, h5, h50, h6, h7, h8, h9, h10, fun id' q cs' sz' hq hm => ?_⟩
      rw [hin (ltO_get hmO id' q hq).1] at hm
      exact h11 id' q _ _ (subO_get hO id' q hq) hm
  · rw [hin (ltK_get hmK i _ q1)] at hm1
    rw [hin (ltK_get hmK i' _ q2)] at hm2
    exact hX.s.t.apart i i' _ _ _ _ _ _ _ _ _ _ _ _ hne (subK_get hK i _ q1) (subK_get hK i' _ q2) hm1 hm2
  · have hlt : id < lo := by
      rcases Nat.lt_or_ge id lo with h | h
      · exact h
      · rw [hX.lo0 id h] at hi; cases hi
    rw [hin (by omega)]; exact hX.m0.1 _ _ _ _ hi
  · have hlt : id < lo := by
      rcases Nat.lt_or_ge id lo with h | h
      · exact h
      · rw [hX.lo0 id h] at hi; cases hi
    obtain ⟨n', cv', k1, k2, k3⟩ := hX.m0.2 _ _ _ hi
    exact ⟨n', cv', by rw [hin (by omega)]; exact k1, k2, k3⟩
/-- a way that ends where the code goes on, in a state that fits a known one -/
def LeQ (nt lo : Nat) (p : Prop) (M : St) (Q : Exit → St → Prop) : Exit → St → Prop
  | .normal, s => p ∧ s.le M lo nt
  | e, s => Q e s
theorem W_if {c : Operand} {x y rest : Code} {b : Bool} {p : Prop} (hc : ev s.e c = .bool b) (ht : b = true → W P nt lo x s (LeQ nt lo p M Q)) (hf : b = false → W P nt lo y s (LeQ nt lo p M Q)) (hn : p → W P nt lo rest M Q) : W P nt lo (.seq (.cond c x y) rest) s Q := by
  refine W_seq (W_cond hc (fun h => ?_) (fun h => ?_))
  · refine (ht h).mono (fun e s' hq => ?_)
    cases e with
    | normal => exact (hn hq.1).of_le hq.2
    | _ => exact hq
  · refine (hf h).mono (fun e s' hq => ?_)
    cases e with
    | normal => exact (hn hq.1).of_le hq.2
    | _ => exact hq
/-- the same at the end of a piece -/
theorem W_ift {c : Operand} {x y rest : Code} {b : Bool} {p : Prop} (hc : ev s.e c = .bool b) (ht : b = true → W P nt lo x s (LeQ nt lo p M Q)) (hf : b = false → W P nt lo y s (LeQ nt lo p M Q)) (hn : p → W P nt lo rest M Q) : W P nt lo (.cond c x y) s (thenQ P nt lo rest Q) := by
  refine W_cond hc (fun h => ?_) (fun h => ?_)
  · refine (ht h).mono (fun e s' hq => ?_)
    cases e with
    | normal => exact (hn hq.1).of_le hq.2
    | _ => exact hq
  · refine (hf h).mono (fun e s' hq => ?_)
    cases e with
    | normal => exact (hn hq.1).of_le hq.2
    | _ => exact hq
theorem pass_le {id : Nat} {p : Prop} (h : Q (.exit id) s) : LeQ nt lo p M Q (.exit id) s := h
theorem mi1 {b : Bool} {x : AV} {k : IntKind} {n1 n2 : Int} (h : b = true) (hx : x = .int k n1) : x = .int k (bif b then n1 else n2) := by rw [h, hx]; rfl
theorem mi2 {b : Bool} {x : AV} {k : IntKind} {n1 n2 : Int} (h : b = false) (hx : x = .int k n2) : x = .int k (bif b then n1 else n2) := by rw [h, hx]; rfl
theorem mb1 {b : Bool} {x : AV} {n1 n2 : Bool} (h : b = true) (hx : x = .bool n1) : x = .bool (bif b then n1 else n2) := by rw [h, hx]; rfl
theorem mb2 {b : Bool} {x : AV} {n1 n2 : Bool} (h : b = false) (hx : x = .bool n2) : x = .bool (bif b then n1 else n2) := by rw [h, hx]; rfl
/-- the end: what the results read -/
theorem ends {fn : Func} {ex : Exit} {s : St} {c : Prop} {l : List AV} {q r : AV} (hx : ex = .normal ∨ ex = .ret) (hl : resList T s fn.results.toList = some (c, l)) (hc : c) (hd : dem (pack l) = q) (hg : gr q = true) (hr : q = r) : Ends T fn r ex s := by
  subst hr
  exact ⟨hx, c, l, hl, hc, hd, hg⟩
/-- a row that came in is indexed; rows of which each element is told by one thing -/
theorem ave_index_ro {α : Type} [Inhabited α] {O : Objs} {e : Operand → AV} {t el : Nat} {x ix : Operand} {f : α → List AV} {xs : List α} {k : IntKind} {n : Int} (hx : strip (e x) = .ro (xs.map f)) (hix : strip (e ix) = .int k n) (hk : (T.at t).kind = .slice el) (hsz : ∀ a, Nat.beq (f a).length (T.at el).size = true) (hs0 : Nat.beq (T.at el).size 0 = false)
    (h0 : 0 ≤ n) (h1 : n < (xs.length : Int)) : sgs [e x, e ix] → Av T O e (.indexAddr t x ix) (.rptr (f (xs.getD n.toNat default))) := by
  intro h
  have hlt : n.toNat < xs.length := by omega
  have hg : (xs.map f).getD n.toNat [] = f (xs.getD n.toNat default) := by simp [List.getD_eq_getElem?_getD, hlt]
  refine ⟨sgs [e x, e ix] ∧ ((0 ≤ n ∧ n < ((xs.map f).length : Int)) ∧ (Nat.beq ((xs.map f).getD n.toNat []).length (T.at el).size && !Nat.beq (T.at el).size 0) = true), ?_, ⟨h, ⟨h0, by simpa using h1⟩, ?_⟩⟩
  · simp only [ave, aval, aIndexAddr, hx, hix, hk]
    rw [hg]
    rfl
  · rw [hg, hsz, hs0]; rfl
theorem ave_index_app {α : Type} [Inhabited α] {O : Objs} {e : Operand → AV} {t el : Nat} {x ix : Operand} {f : α → List AV} {xs : List α} {k : IntKind} {n : Int} {tok : Nat} (hx : strip (e x) = .app tok (xs.map f)) (hix : strip (e ix) = .int k n) (hk : (T.at t).kind = .slice el) (hsz : ∀ a, Nat.beq (f a).length (T.at el).size = true) (hs0 : Nat.beq (T.at el).size 0 = false)
    (h0 : 0 ≤ n) (h1 : n < (xs.length : Int)) : sgs [e x, e ix] → Av T O e (.indexAddr t x ix) (.rptr (f (xs.getD n.toNat default))) := by
  intro h
  have hlt : n.toNat < xs.length := by omega
  have hg : (xs.map f).getD n.toNat [] = f (xs.getD n.toNat default) := by simp [List.getD_eq_getElem?_getD, hlt]
  refine ⟨sgs [e x, e ix] ∧ ((0 ≤ n ∧ n < ((xs.map f).length : Int)) ∧ (Nat.beq ((xs.map f).getD n.toNat []).length (T.at el).size && !Nat.beq (T.at el).size 0) = true), ?_, ⟨h, ⟨h0, by simpa using h1⟩, ?_⟩⟩
  · simp only [ave, aval, aIndexAddr, hx, hix, hk]
    rw [hg]
    rfl
  · rw [hg, hsz, hs0]; rfl
/-- an object's row is indexed -/
theorem ave_index_row {O : Objs} {e : Operand → AV} {t el id i m : Nat} {x ix : Operand} {k : IntKind} {n : Int} {ob : Ob} (hx : strip (e x) = .row id i m) (hob : lk O id = some ob) (hix : strip (e ix) = .int k n) (hk : (T.at t).kind = .slice el) (hsz : Nat.beq ob.sz (T.at el).size = true) (hs0 : Nat.beq (T.at el).size 0 = false)
    (h0 : 0 ≤ n) (h1 : n < (m : Int)) : sgs [e x, e ix] → Av T O e (.indexAddr t x ix) (.ptr id (i + n.toNat) 0) := by
  intro h
  refine ⟨sgs [e x, e ix] ∧ ((0 ≤ n ∧ n < (m : Int)) ∧ (Nat.beq ob.sz (T.at el).size && !Nat.beq (T.at el).size 0) = true), ?_, ⟨h, ⟨h0, h1⟩, ?_⟩⟩
  · simp only [ave, aval, aIndexAddr, hx, hix, hk, hob]
    rfl
  · rw [hsz, hs0]; rfl
/-- an element of an object's row is loaded -/
theorem ave_load_row {α : Type} [Inhabited α] {O : Objs} {e : Operand → AV} {t id i j ty sz fz : Nat} {x : Operand} {f : α → List AV} {xs : List α} (hx : strip (e x) = .ptr id i j) (hob : lk O id = some ⟨ty, sz, fz, xs.map f⟩) (hkn : (T.at t).kind.known = true) (hc : loadc (T.at t) (sz - j) = true) (hi : i < xs.length) :
    sgs [e x] → Av T O e (.load t x) (loadv (T.at t) ((f (xs.getD i default)).drop j)) := by
  intro h
  have hg : (xs.map f).getD i [] = f (xs.getD i default) := by simp [List.getD_eq_getElem?_getD, hi]
  refine ⟨sgs [e x] ∧ (Nat.blt i (xs.map f).length && loadc (T.at t) (sz - j)) = true, ?_, ⟨h, ?_⟩⟩
  · simp only [ave, aval, aLoad, hx, hob, hkn, cond_true, hg]
    rfl
  · have : Nat.blt i (xs.map f).length = true := by simp [Nat.blt_eq, hi]
    simp only [this, hc, Bool.and_self]
end
end Go.AM
end
section
namespace Go.AM
open Go.RowKit
set_option linter.unusedVariables false
set_option linter.unusedSimpArgs false
section
variable {P : Program} {T : Tab} {nt lo : Nat} {s s1 s2 M : St} {Q : Exit → St → Prop}
theorem W_cond_t {c : Operand} {b : Bool} {x y : Code} (hc : ev s.e c = .bool b) (hb : b = true) (h : W P nt lo x s Q) : W P nt lo (.cond c x y) s Q := W_cond hc (fun _ => h) (fun h' => by rw [hb] at h'; cases h')
theorem W_cond_f {c : Operand} {b : Bool} {x y : Code} (hc : ev s.e c = .bool b) (hb : b = false) (h : W P nt lo y s Q) : W P nt lo (.cond c x y) s Q := W_cond hc (fun h' => by rw [hb] at h'; cases h') (fun _ => h)
/-- a loop, at the head of a round -/
def LoopW (P : Program) (nt lo : Nat) (c : Code) (s : St) (Q : Exit → St → Prop) : Prop := ∀ β a w, Rel β nt lo s a w → ∀ (b : Frame) (k : List Item) (cs : List Frame), b.roundOf = β.lp →
  ∃ e a' w', (∃ s', Q e s' ∧ Rel β nt lo s' a' w') ∧ ArrivesIn (Machine.fenced P (Fw β.lp)) P (lone (b.atR a (.code c :: .inLoop c :: k)) cs w) b k cs e a' w'
theorem W_loop_of {c : Code} (h : LoopW P nt lo c s Q) : W P nt lo (.loop c) s Q := fun β a w hr b k cs hro hb hrm => by
  obtain ⟨e, a', w', hq, harr⟩ := h β a w hr b k cs hro
  exact ⟨e, a', w', hq, .of_steps (.one (fenced_calm hb hrm rfl) stepR_loop) harr⟩
def onceQ (P : Program) (nt lo : Nat) (c : Code) (Q : Exit → St → Prop) : Exit → St → Prop
  | .normal, s => LoopW P nt lo c s Q
  | e, s => Q e s
theorem LoopW_once {c : Code} (h : W P nt lo c s (onceQ P nt lo c Q)) : LoopW P nt lo c s Q := fun β a w hr b k cs hro => by
  obtain ⟨e, a₁, w₁, ⟨s', hq, hr1⟩, harr⟩ := h β a w hr b (.inLoop c :: k) cs hro trivial (Fw_room _ _)
  cases e with
  | normal =>
    obtain ⟨e₂, a₂, w₂, hq₂, harr₂⟩ := hq β a₁ w₁ hr1 b k cs hro
    exact ⟨e₂, a₂, w₂, hq₂, .of_steps (StepsIn.trans harr (.one (fenced_calm (n := 0) trivial (Fw_room _ _) rfl) stepR_inLoop)) harr₂⟩
  | exit id => exact ⟨_, a₁, w₁, ⟨s', hq, hr1⟩, .pass (x := .inLoop c) rfl (fun _ _ => .inl (by simp)) harr⟩
  | goto l => exact ⟨_, a₁, w₁, ⟨s', hq, hr1⟩, .pass (x := .inLoop c) rfl (fun _ _ => .inl (by simp)) harr⟩
  | ret => exact ⟨_, a₁, w₁, ⟨s', hq, hr1⟩, .pass (x := .inLoop c) rfl (fun _ _ => .inl (by simp)) harr⟩
  | panic ch => exact ⟨_, a₁, w₁, ⟨s', hq, hr1⟩, .pass (x := .inLoop c) rfl (fun _ _ => .inl (by simp)) harr⟩
  | outgrown => exact ⟨_, a₁, w₁, ⟨s', hq, hr1⟩, .pass (x := .inLoop c) rfl (fun _ _ => .inl (by simp)) harr⟩
theorem LoopW.of_le {c : Code} {s s' : St} (hl : s.le s' lo nt) (h : LoopW P nt lo c s' Q) : LoopW P nt lo c s Q := fun β a w hr => h β a w (hl β a w hr)
/-- what a round comes to -/
def roundQ {ι : Type} (nt lo : Nat) (I : ι → St) (m : ι → Nat) (i : ι) (Q : Exit → St → Prop) : Exit → St → Prop
  | .normal, s => ∃ i', m i' < m i ∧ s.le (I i') lo nt
  | e, s => Q e s
theorem W_inv {c : Code} {ι : Type} (I : ι → St) (m : ι → Nat) (i0 : ι) (h0 : s.le (I i0) lo nt) (round : ∀ i, W P nt lo c (I i) (roundQ nt lo I m i Q)) : W P nt lo (.loop c) s Q :=
  W_loop I m i0 h0 (fun i => (round i).mono (fun e s' h => by cases e <;> exact h))
theorem pass_then {c : Code} {id : Nat} (h : Q (.exit id) s) : thenQ P nt lo c Q (.exit id) s := h
theorem pass_once {c : Code} {id : Nat} (h : Q (.exit id) s) : onceQ P nt lo c Q (.exit id) s := h
theorem pass_round {ι : Type} {I : ι → St} {m : ι → Nat} {i : ι} {id : Nat} (h : Q (.exit id) s) : roundQ nt lo I m i Q (.exit id) s := h
theorem round_end {ι : Type} {I : ι → St} {m : ι → Nat} {i : ι} (i' : ι) (hm : m i' < m i) (hl : s.le (I i') lo nt) : roundQ nt lo I m i Q .normal s := ⟨i', hm, hl⟩
theorem WL.of_le {ops : Array Oper} {l : List Oper} {s s' : St} (hl : s.le s' lo nt) (h : WL P nt lo ops l s' Q) : WL P nt lo ops l s Q := fun β a w hr => h β a w (hl β a w hr)
/-- a whole row of the call's own isn't written any more: a tree from now on -/
theorem le_freeze {e : Env} {O : Objs} {K : Toks} {nx t id n : Nat} {ob : Ob} {l : List (List AV)} (hg : get e t = .row id 0 n) (hob : lk O id = some ob) (hn : n = ob.es.length) (hfz : Nat.ble ob.fz n = true) (hsz : Nat.blt 0 ob.sz = true) (hl : ob.es.map (·.map demC) = l) (hgr : l.all (fun c => c.all grC) = true) :
    St.le ⟨e, O, K, nx⟩ ⟨(t, .ro l) :: e, (id, none) :: O, K, nx + 1⟩ lo nt := by
  intro β a w ⟨hd, μ, F, hE, hX⟩
  have hr := hE.rel t
  dsimp only at hr
  rw [hg] at hr
  obtain ⟨μ', F', hS, hv, hle, hF, hb⟩ := hX.s.rowTok hob hr hn (Nat.le_of_ble_eq_true hfz) (by simpa [Nat.blt_eq] using hsz) hl hgr
  refine ⟨hd, μ', F', ⟨hE.size, fun q => ?_⟩, ⟨⟨hS.o, ⟨fun i ty sz k hi => ?_, fun i i' ty1 sz1 ty2 sz2 m1 m2 bb bb' c1 c2 cap1 cap2 hne q1 q2 => ?_⟩⟩, fun a v q => hF a v (hX.fa a v q), fun a v q hq => hX.fb a v (hb a v q hq) hq, hX.m0.trans hle, fun a v q => hF a v (hX.f0 a v q), hX.lo0, Nat.le_succ_of_le hX.lo1, hX.dzl⟩⟩
  · show RelV F' μ' (get ((t, .ro l) :: e) q) _
    rw [get_cons]
    split
    · rename_i he; subst he
      cases hv with
      | app h _ _ _ => exact h.mono (Pm.le0 _) (fun _ _ q => q)
    · exact (hE.rel q).mono hle hF
  · refine hS.t.tok i ty sz k ?_
    rw [lt_cons, if_neg]
    · exact hi
    · rintro rfl
      have := hX.s.tok_lt hi
      dsimp only at this; omega
  · have up : ∀ {i : Nat} {z : Nat × Nat × Nat}, lt K i = some z → lt ((nx, some (ob.ty, ob.sz, n)) :: K) i = some z := by
      intro i z hi
      obtain ⟨z1, z2, z3⟩ := z
      rw [lt_cons, if_neg]
      · exact hi
      · rintro rfl
        have := hX.s.tok_lt hi
        dsimp only at this; omega
    exact hS.t.apart i i' _ _ _ _ _ _ _ _ _ _ _ _ hne (up q1) (up q2)
variable {ops : Array Oper} {O : Objs} {K : Toks} {nx : Nat} {G : Env → Prop} {e : Env} {rest : List Oper} {op : Op} {ty : TypeId} {pos : String} {after : Array Edge} {c : Prop} {v : AV} {d : Nat}
theorem L_build (hT : Tab.Ok P T) {t len el sz : Nat} {ps : Array (Nat × Operand)} {es : List (List AV)} {z : List AV} (hk : (T.at t).kind = .slice el) (hsz : (T.at el).size = sz) (hz : (T.at el).zero = z) (hzl : z.length = sz) (hpos : Nat.blt 0 sz = true) (hbig : len * sz ≤ 16777216) (hsg : sgs (ps.toList.map fun q => ev e q.2))
    (hes : afill (fun i => some (i * sz, sz)) (List.replicate len z).flatten (ps.toList.map fun q => (q.1, strip (ev e q.2))) = some es.flatten) (hel : es.length = len) (hall : es.all (fun c => Nat.beq c.length sz) = true) (hone : es.all (fun c => c.all AV.one) = true) (hd : Nat.blt d nt = true)
    (hn : WL P nt lo ops rest ⟨(d, .row nx 0 len) :: e, (nx, some ⟨el, sz, 0, es⟩) :: O, K, nx + 1⟩ Q) : WL P nt lo ops (⟨some d, .buildSlice t len ps, ty, pos, after, none⟩ :: rest) ⟨e, O, K, nx⟩ Q :=
  WL_buildSlice hT rfl rfl hk hsz hz hzl (by simpa [Nat.blt_eq] using hpos) hsg hes hel (fun c hc => Nat.eq_of_beq_eq_true (List.all_eq_true.1 hall c hc)) hone hbig (by dsimp only; rw [wr_some hd]; exact hn)
theorem L_make (hT : Tab.Ok P T) {t el sz : Nat} {x y : Operand} {z : List AV} {kl kc : IntKind} {l cc : Int} (hk : (T.at t).kind = .slice el) (hsz : (T.at el).size = sz) (hz : (T.at el).zero = z) (hzl : z.length = sz) (hpos : Nat.blt 0 sz = true) (hone : z.all AV.one = true)
    (hx : strip (ev e x) = .int kl l) (hy : strip (ev e y) = .int kc cc) (hs : sg (ev e x) ∧ sg (ev e y)) (h0 : 0 ≤ l ∧ l ≤ cc) (hbytes : ((T.at el).bytes : Int) * cc ≤ 281474976710656 ∧ cc ≤ 9223372036854775807) (hd : Nat.blt d nt = true)
    (hn : WL P nt lo ops rest ⟨(d, .row nx 0 l.toNat) :: e, (nx, some ⟨el, sz, 0, List.replicate l.toNat z⟩) :: O, K, nx + 1⟩ Q) : WL P nt lo ops (⟨some d, .makeSlice t x y, ty, pos, after, none⟩ :: rest) ⟨e, O, K, nx⟩ Q :=
  WL_makeSlice hT rfl rfl hk hsz hz hzl (by simpa [Nat.blt_eq] using hpos) hone hx hs.1 hy hs.2 h0.1 h0.2 hbytes.1 hbytes.2 (by dsimp only; rw [wr_some hd]; exact hn)
/-- a row of the call's own is given away: whole, as a tree -/
theorem L_freeze {l0 : List Oper} {t id n : Nat} {ob : Ob} {l : List (List AV)} (hg : get e t = .row id 0 n) (hob : lk O id = some ob) (hn : n = ob.es.length) (hfz : Nat.ble ob.fz n = true) (hsz : Nat.blt 0 ob.sz = true) (hl : ob.es.map (·.map demC) = l) (hgr : l.all (fun c => c.all grC) = true)
    (h : WL P nt lo ops l0 ⟨(t, .ro l) :: e, (id, none) :: O, K, nx + 1⟩ Q) : WL P nt lo ops l0 ⟨e, O, K, nx⟩ Q := WL.of_le (le_freeze hg hob hn hfz hsz hl hgr) h
theorem L_app (hT : Tab.Ok P T) {x y : Operand} {t tok el sz n : Nat} {l m : List (List AV)} (hx : strip (ev e x) = .app tok l) (hk : lt K tok = some (el, sz, n)) (hnl : n = l.length) (hkd : (T.at t).kind = .slice el) (hm : srcA O (strip (ev e y)) = some m) (hty : Nat.beq (T.at el).size sz && Nat.beq (T.at el).zero.length sz && !Nat.beq (T.at el).bytes 0 = true)
    (hs : sg (ev e x) ∧ sg (ev e y)) (hlz : allSz sz l) (hmz : allSz sz m) (hmg : m.all (fun c => c.all grC) = true) (hbytes : (l.length + m.length) * (T.at el).bytes ≤ 140737488355328) (hd : Nat.blt d nt = true)
    (hn : WL P nt lo ops rest ⟨(d, .app tok (l ++ m)) :: e, O, (tok, some (el, sz, (l ++ m).length)) :: K, nx⟩ Q) : WL P nt lo ops (⟨some d, .call { callee := .builtin .append, args := #[x, y], argTypes := #[t, t] }, ty, pos, after, none⟩ :: rest) ⟨e, O, K, nx⟩ Q := by
  subst hnl
  simp only [Bool.and_eq_true, Bool.not_eq_true', Bool.decide_eq_true, decide_eq_true_eq] at hty
  obtain ⟨⟨k1, k2⟩, k3⟩ := hty
  exact WL_append hT rfl rfl hx hs.1 hs.2 hk hkd ⟨Nat.eq_of_beq_eq_true k1, Nat.eq_of_beq_eq_true k2, fun h => by rw [h] at k3; simp at k3⟩ hm hlz hmz hmg hbytes (by dsimp only; rw [wr_some hd]; exact hn)
theorem L_app_nil (hT : Tab.Ok P T) {x y : Operand} {t el sz : Nat} {m : List (List AV)} (hx : strip (ev e x) = .nils) (hkd : (T.at t).kind = .slice el) (hsz : (T.at el).size = sz) (hm : srcA O (strip (ev e y)) = some m) (hty : Nat.blt 0 sz && Nat.beq (T.at el).zero.length sz && !Nat.beq (T.at el).bytes 0 = true)
    (hs : sg (ev e x) ∧ sg (ev e y)) (hmz : allSz sz m) (hmg : m.all (fun c => c.all grC) = true) (hbytes : m.length * (T.at el).bytes ≤ 140737488355328) (hd : Nat.blt d nt = true)
    (hn : WL P nt lo ops rest ⟨(d, .app nx m) :: e, O, (nx, some (el, sz, m.length)) :: K, nx + 1⟩ Q) : WL P nt lo ops (⟨some d, .call { callee := .builtin .append, args := #[x, y], argTypes := #[t, t] }, ty, pos, after, none⟩ :: rest) ⟨e, O, K, nx⟩ Q := by
  simp only [Bool.and_eq_true, Bool.not_eq_true', Bool.decide_eq_true, decide_eq_true_eq] at hty
  obtain ⟨⟨k1, k2⟩, k3⟩ := hty
  exact WL_append_nil hT rfl rfl hx hs.1 hs.2 hkd ⟨hsz, Nat.eq_of_beq_eq_true k2, fun h => by rw [h] at k3; simp at k3⟩ (by simpa [Nat.blt_eq] using k1) hm hmz hmg hbytes (by dsimp only; rw [wr_some hd]; exact hn)
theorem L_app_row (hT : Tab.Ok P T) {x y : Operand} {t id n : Nat} {ob : Ob} {l m : List (List AV)} (hx : strip (ev e x) = .row id 0 n) (hob : lk O id = some ob) (hnl : n = ob.es.length) (hfz : Nat.ble ob.fz n = true) (hl : ob.es.map (·.map demC) = l) (hlg : l.all (fun c => c.all grC) = true) (hkd : (T.at t).kind = .slice ob.ty) (hm : srcA ((id, none) :: O) (strip (ev e y)) = some m)
    (hty : Nat.blt 0 ob.sz && Nat.beq (T.at ob.ty).size ob.sz && Nat.beq (T.at ob.ty).zero.length ob.sz && !Nat.beq (T.at ob.ty).bytes 0 = true)
    (hs : sg (ev e x) ∧ sg (ev e y)) (hlz : allSz ob.sz l) (hmz : allSz ob.sz m) (hmg : m.all (fun c => c.all grC) = true) (hbytes : (l.length + m.length) * (T.at ob.ty).bytes ≤ 140737488355328) (hd : Nat.blt d nt = true)
    (hn : WL P nt lo ops rest ⟨(d, .app nx (l ++ m)) :: e, (id, none) :: O, (nx, some (ob.ty, ob.sz, (l ++ m).length)) :: K, nx + 1⟩ Q) : WL P nt lo ops (⟨some d, .call { callee := .builtin .append, args := #[x, y], argTypes := #[t, t] }, ty, pos, after, none⟩ :: rest) ⟨e, O, K, nx⟩ Q := by
  simp only [Bool.and_eq_true, Bool.not_eq_true', Bool.decide_eq_true, decide_eq_true_eq] at hty
  obtain ⟨⟨⟨k0, k1⟩, k2⟩, k3⟩ := hty
  exact WL_append_row hT rfl rfl hx hs.1 hs.2 hob hnl (Nat.le_of_ble_eq_true hfz) hl hlg hkd ⟨Nat.eq_of_beq_eq_true k1, Nat.eq_of_beq_eq_true k2, fun h => by rw [h] at k3; simp at k3⟩ (by simpa [Nat.blt_eq] using k0) hm hlz hmz hmg hbytes (by dsimp only; rw [wr_some hd]; exact hn)
/-! ways that meet with objects -/
def ltOB (n : Nat) (m : Objs) : Bool := m.all fun p => Nat.blt p.1 n && (match p.2 with | some ob => ob.es.all (fun c => c.all (AV.lt n)) | none => true)
theorem ltO_of {n : Nat} : ∀ {m : Objs}, ltOB n m = true → ltO n m
  | [], _ => trivial
  | (id, o) :: r, h => by
    simp only [ltOB, List.all_cons, Bool.and_eq_true] at h
    refine ⟨⟨h.1.1, ?_⟩, ltO_of h.2⟩
    rintro ob rfl c hc v hv
    exact List.all_eq_true.1 (List.all_eq_true.1 h.1.2 c hc) v hv
theorem le_fit {e m : Env} {O O' : Objs} {K K' : Toks} {nx n lo nt : Nat} (h : sub m e) (hO : subO O' O) (hK : subK K' K) (hn : Nat.ble n nx = true) (hlo : Nat.ble lo n = true) (hme : ltE n m = true) (hmO : ltOB n O' = true) (hmK : ltK n K' = true) : St.le ⟨e, O, K, nx⟩ ⟨m, O', K', n⟩ lo nt :=
  le_all h hO hK hn hlo hme (ltO_of hmO) hmK
/-- the state hangs on a thing that the way has chosen -/
theorem le_t {α : Type} {F : α → St} {b : Bool} {x y : α} {s : St} {lo nt : Nat} (h : b = true) (hs : s.le (F x) lo nt) : s.le (F (bif b then x else y)) lo nt := by rw [h]; exact hs
theorem le_f {α : Type} {F : α → St} {b : Bool} {x y : α} {s : St} {lo nt : Nat} (h : b = false) (hs : s.le (F y) lo nt) : s.le (F (bif b then x else y)) lo nt := by rw [h]; exact hs
end
end Go.AM
end
section
namespace Go.AM
open Go.RowKit
set_option linter.unusedVariables false
set_option linter.unusedSimpArgs false
section
variable {P : Program} {T : Tab} {nt lo : Nat} {ops : Array Oper} {K : Toks} {Q : Exit → St → Prop}
def OSub (M O : Objs) : Prop := ∀ id o, lk M id = some o → lk O id = some o
theorem OSub.refl (O : Objs) : OSub O O := fun _ _ h => h
theorem RelO.forget {n0 nx : Nat} {w0 w : World} {μ : Pm} {F : Mem} {M O : Objs} (h : OSub M O) (hX : RelO n0 w0 μ F O nx w) : RelO n0 w0 μ F M nx w :=
  ⟨hX.below, hX.base, hX.fresh, fun id o ho => hX.obj id o (h id o ho), fun id id' o o' b cs sz b' cs' sz' hne h1 h2 => hX.apart id id' o o' b cs sz b' cs' sz' hne (h id o h1) (h id' o' h2), hX.mem, fun id o b cs sz h1 => hX.froz id o b cs sz (h id o h1)⟩
/-- an operation of a region: what it yields, what it leaves -/
def Ys (P : Program) (nt lo : Nat) (ops : Array Oper) (K : Toks) (H : Objs × Nat) (o : Oper) (v : AV) (e : Env) (H' : Objs × Nat) : Prop := ∀ β a w (e' : Env), (∀ t ∈ o.looksAt ops, get e' t = get e t) → Rel β nt lo ⟨e', H.1, K, H.2⟩ a w →
  (Region.wanted o (yielded ops a.tmps) = true ∧ ∀ (K' : Act → World → Prop) (Q' : Exit → Act → World → Prop), (∀ a' w', Rel β nt lo ⟨wr nt e' o.dst v, H'.1, K, H'.2⟩ a' w' → K' a' w') → o.wp P a w K' Q') ∨
  (Region.wanted o (yielded ops a.tmps) = false ∧ Rel β nt lo ⟨wr nt e' o.dst v, H'.1, K, H'.2⟩ (a.put o.dst undef) w)
theorem Ys.eqOn {H H' : Objs × Nat} {o : Oper} {v : AV} {e e' : Env} (h : Ys P nt lo ops K H o v e H') (he : ∀ t ∈ o.looksAt ops, get e' t = get e t) : Ys P nt lo ops K H o v e' H' := fun β a w e2 h2 hr => h β a w e2 (fun t ht => (h2 t ht).trans (he t ht)) hr
/-- whatever order is picked -/
def AnyS (P : Program) (nt lo : Nat) (ops : Array Oper) (K : Toks) (Om : Objs) (G : Env → Objs × Nat → Prop) : Nat → Array Bool → Objs × Nat → Env → Prop
  | 0, listed, O, e => Region.ready .any ops listed = [] ∧ G e O
  | m + 1, listed, O, e => Region.ready .any ops listed ≠ [] ∧ ∀ i ∈ Region.ready .any ops listed, ∃ o v O', ops[i]? = some o ∧ OSub Om O'.1 ∧ Ys P nt lo ops K O o v e O' ∧ AnyS P nt lo ops K Om G m (listed.setIfInBounds i true) O' (wr nt e o.dst v)
variable {Om : Objs} {G : Env → Objs × Nat → Prop}
theorem AnyS.eqE (ht : ∀ O e e', EqE e e' → G e O → G e' O) : ∀ (m : Nat) (listed : Array Bool) (O : Objs × Nat) {e e' : Env}, EqE e e' → AnyS P nt lo ops K Om G m listed O e → AnyS P nt lo ops K Om G m listed O e'
  | 0, l, O, e, e', he, h => ⟨h.1, ht O e e' he h.2⟩
  | m + 1, l, O, e, e', he, h => ⟨h.1, fun i hi => by
    obtain ⟨o, v, O', h1, hs, h2, h3⟩ := h.2 i hi
    exact ⟨o, v, O', h1, hs, h2.eqOn (fun t _ => (he t).symm), AnyS.eqE ht m _ O' (he.wr o.dst v) h3⟩⟩
theorem AnyS_first (ht : ∀ O e e', EqE e e' → G e O → G e' O) {i : Nat} {oi : Oper} {v : AV} (hi : ops[i]? = some oi) :
    ∀ (m : Nat) (listed : Array Bool) (O : Objs × Nat) (e : Env), OSub Om O.1 →
      (∀ j oj, ops[j]? = some oj → j ≠ i → listed.getD j true = false → (∀ e ∈ oj.after, Region.binds .any e = true → e.on ≠ i) → oi.apart ops oj = true) →
      i ∈ Region.ready .any ops listed → (∀ O', OSub Om O'.1 → Ys P nt lo ops K O' oi v e O') →
      AnyS P nt lo ops K Om G m (listed.setIfInBounds i true) O (wr nt e oi.dst v) → AnyS P nt lo ops K Om G (m + 1) listed O e := by
  intro m
  induction m with
  | zero =>
    intro listed O e hO _ hr hy H
    refine ⟨fun h => (by rw [h] at hr; cases hr), fun j hj => ?_⟩
    by_cases hji : j = i
    · subst hji; exact ⟨oi, v, O, hi, hO, hy O hO, H⟩
    · have := ready_mono hj hji
      rw [H.1] at this; cases this
  | succ m ih =>
    intro listed O e hO hfree hr hy H
    refine ⟨fun h => (by rw [h] at hr; cases hr), fun j hj => ?_⟩
    by_cases hji : j = i
    · subst hji; exact ⟨oi, v, O, hi, hO, hy O hO, H⟩
    · obtain ⟨oj, vj, O', h1, hs, h2, h3⟩ := H.2 j (ready_mono hj hji)
      obtain ⟨hjun, oj', hoj, hall⟩ := mem_ready.1 hj
      rw [h1] at hoj; cases hoj
      have hnot : ∀ e ∈ oj.after, Region.binds .any e = true → e.on ≠ i := fun e he hb heq => by
        have h1 := hall e he hb
        have h0 := (mem_ready.1 hr).1
        rw [heq] at h1
        rcases Nat.lt_or_ge i listed.size with h' | h'
        · simp [h'] at h0 h1; rw [h0] at h1; cases h1
        · simp [Array.getElem?_eq_none h'] at h1
      have hap := hfree j oj h1 hji hjun hnot
      obtain ⟨p1, p2, p3⟩ := Oper.apart_spec hap
      have hyj : Ys P nt lo ops K O oj vj e O' := h2.eqOn (fun t ht' => by
        rw [get_wr, if_neg]
        rintro ⟨hd, _⟩; exact p1 t hd ht')
      have hyi : ∀ O', OSub Om O'.1 → Ys P nt lo ops K O' oi v (wr nt e oj.dst vj) O' := fun O' hO' => (hy O' hO').eqOn (fun t ht' => by
        rw [get_wr, if_neg]
        rintro ⟨hd, _⟩; exact p3 t hd ht')
      refine ⟨oj, vj, O', h1, hs, hyj, ih (listed.setIfInBounds j true) O' (wr nt e oj.dst vj) hs (fun k ok hk hki hun hno => ?_) (ready_mono hr (Ne.symm hji)) hyi ?_⟩
      · refine hfree k ok hk hki ?_ hno
        by_cases hjk : j = k
        · subst hjk; exact hjun
        · rw [getD_set_ne true hjk] at hun; exact hun
      · rw [Array.setIfInBounds_comm _ _ hji]
        exact AnyS.eqE ht m _ O' (wr_comm e v vj (fun x hx => p2 x hx)) h3
theorem AnyS.sound {R : Exit → Act → World → Prop} {β : Bs} (hT : ∀ e O, G e O → ∀ a w, Rel β nt lo ⟨e, O.1, K, O.2⟩ a w → R .normal a w) :
    ∀ (m : Nat) (listed : Array Bool) (O : Objs × Nat) (e : Env), AnyS P nt lo ops K Om G m listed O e → ∀ a w, Rel β nt lo ⟨e, O.1, K, O.2⟩ a w → wpY β.lp P ops R m listed a w
  | 0, listed, O, e, h, a, w, hr => ⟨h.1, hT _ _ h.2 a w hr⟩
  | m + 1, listed, O, e, h, a, w, hr => by
    refine ⟨fun h0 => absurd h0 h.1, fun i hi => ?_⟩
    obtain ⟨o, v, O', h1, _, h2, h3⟩ := h.2 i hi
    have ih := AnyS.sound hT m _ _ _ h3
    unfold wpO
    simp only [h1]
    rcases h2 β a w e (fun _ _ => rfl) hr with ⟨hw, hx⟩ | ⟨hw, hx⟩
    · rw [if_pos hw]
      exact .inl (hx _ _ (fun a' w' hr' => ih _ _ hr'))
    · rw [if_neg (by simp [hw])]
      exact ih _ _ hx
/-- the quiet operations, in the text's order -/
def LexS (P : Program) (nt lo : Nat) (ops : Array Oper) (K : Toks) (Om : Objs) : List Oper → Env → (Env → Prop) → Prop
  | [], e, H => H e
  | o :: rest, e, H => ∃ v, (∀ O' : Objs × Nat, OSub Om O'.1 → Ys P nt lo ops K O' o v e O') ∧ LexS P nt lo ops K Om rest (wr nt e o.dst v) H
/-- the others, in an order -/
def TailL (P : Program) (nt lo : Nat) (ops : Array Oper) (K : Toks) (Om : Objs) (G : Env → Objs × Nat → Prop) : List Nat → Objs × Nat → Env → Prop
  | [], O, e => G e O
  | k :: ks, O, e => ∃ o v O', ops[k]? = some o ∧ OSub Om O'.1 ∧ Ys P nt lo ops K O o v e O' ∧ TailL P nt lo ops K Om G ks O' (wr nt e o.dst v)
/-- each of some orders -/
def TailA (P : Program) (nt lo : Nat) (ops : Array Oper) (K : Toks) (Om : Objs) (G : Env → Objs × Nat → Prop) : List (List Nat) → Objs × Nat → Env → Prop
  | [], O, e => True
  | [l], O, e => TailL P nt lo ops K Om G l O e
  | l :: r, O, e => TailL P nt lo ops K Om G l O e ∧ TailA P nt lo ops K Om G r O e
theorem TailA_mem : ∀ {r : List (List Nat)} {O : Objs × Nat} {e : Env}, TailA P nt lo ops K Om G r O e → ∀ l ∈ r, TailL P nt lo ops K Om G l O e
  | [], O, e, _, l, hl => by cases hl
  | [l0], O, e, h, l, hl => by rw [List.mem_singleton.1 hl]; exact h
  | l0 :: l1 :: r, O, e, h, l, hl => by
    rcases List.mem_cons.1 hl with rfl | hl
    · exact h.1
    · exact TailA_mem h.2 l hl
/-- the Bool over the rest: an order that is the only one -/
def tL (ops : Array Oper) : List Nat → Array Bool → Bool
  | [], listed => (Region.ready .any ops listed).isEmpty
  | k :: ks, listed => Region.ready .any ops listed == [k] && tL ops ks (listed.setIfInBounds k true)
/-- some orders, each told by its first -/
def tA (ops : Array Oper) (m : Nat) (r : List (List Nat)) (listed : Array Bool) : Bool := !r.isEmpty && Region.ready .any ops listed == r.map (·.headD 0) && r.all fun l => match l with
  | [] => false
  | k :: ks => Nat.beq (ks.length + 1) m && tL ops ks (listed.setIfInBounds k true)
def qA (ops : Array Oper) (m : Nat) (r : List (List Nat)) : Nat → Nat → Array Bool → Bool
  | 0, k, listed => bif Nat.beq m 0 then (Region.ready .any ops listed).isEmpty && r == [[]] else tA ops m r listed
  | n + 1, k, listed => (Region.ready .any ops listed).contains k && Region.free .any ops listed k && qA ops m r n (k + 1) (listed.setIfInBounds k true)
theorem tail_any : ∀ (l : List Nat) (listed : Array Bool) (O : Objs × Nat) (e : Env), tL ops l listed = true → TailL P nt lo ops K Om G l O e → AnyS P nt lo ops K Om G l.length listed O e
  | [], listed, O, e, hB, h => ⟨by simpa [tL] using hB, h⟩
  | k :: l, listed, O, e, hB, h => by
    simp only [tL, Bool.and_eq_true, beq_iff_eq] at hB
    obtain ⟨hr, hB⟩ := hB
    obtain ⟨o, v, O', h0, hs, hy, hn⟩ := h
    refine ⟨fun h0 => (by rw [hr] at h0; cases h0), fun i hi => ?_⟩
    rw [hr] at hi
    obtain rfl := List.mem_singleton.1 hi
    exact ⟨o, v, O', h0, hs, hy, tail_any l _ O' _ hB hn⟩
theorem tail_all {m : Nat} {r : List (List Nat)} {listed : Array Bool} {O : Objs × Nat} {e : Env} (hB : tA ops (m + 1) r listed = true) (h : TailA P nt lo ops K Om G r O e) (hne : Region.ready .any ops listed ≠ []) : AnyS P nt lo ops K Om G (m + 1) listed O e := by
  simp only [tA, Bool.and_eq_true, beq_iff_eq] at hB
  obtain ⟨⟨_, hr⟩, hall⟩ := hB
  refine ⟨hne, fun i hi => ?_⟩
  rw [hr] at hi
  obtain ⟨l, hl, rfl⟩ := List.mem_map.1 hi
  have hb := List.all_eq_true.1 hall l hl
  have ht := TailA_mem h l hl
  cases l with
  | nil => cases hb
  | cons k ks =>
    simp only [Bool.and_eq_true] at hb
    obtain ⟨o, v, O', h0, hs, hy, hn⟩ := ht
    have hm : ks.length = m := by have := Nat.eq_of_beq_eq_true hb.1; omega
    subst hm
    exact ⟨o, v, O', h0, hs, hy, tail_any ks _ O' _ hb.2 hn⟩
theorem lex_any (ht : ∀ O e e', EqE e e' → G e O → G e' O) {m : Nat} {r : List (List Nat)} {O : Objs × Nat} (hO : OSub Om O.1) : ∀ (l : List Oper) (k : Nat) (listed : Array Bool) (e : Env), (∀ j, j < l.length → l[j]? = ops[k + j]?) →
    qA ops m r l.length k listed = true → LexS P nt lo ops K Om l e (TailA P nt lo ops K Om G r O) → AnyS P nt lo ops K Om G (l.length + m) listed O e
  | [], k, listed, e, _, hB, h => by
    simp only [List.length_nil, qA] at hB
    cases m with
    | zero =>
      simp only [Nat.beq_refl, cond_true, Bool.and_eq_true, List.isEmpty_iff, beq_iff_eq] at hB
      obtain ⟨h1, rfl⟩ := hB
      exact ⟨h1, h⟩
    | succ m =>
      have hB' : tA ops (m + 1) r listed = true := by simpa using hB
      have hne : Region.ready .any ops listed ≠ [] := by
        intro h0
        simp only [tA, h0, Bool.and_eq_true, beq_iff_eq] at hB'
        have h1 := hB'.1.1
        cases r with
        | nil => simp at h1
        | cons x y => simp at hB'
      rw [List.length_nil, Nat.zero_add]
      exact tail_all hB' h hne
  | o :: l, k, listed, e, hl, hB, h => by
    have h0 : ops[k]? = some o := by simpa using (hl 0 (by simp)).symm
    simp only [List.length_cons, qA, Bool.and_eq_true] at hB
    obtain ⟨⟨hr, hf⟩, hB'⟩ := hB
    obtain ⟨v, hy, hK⟩ := h
    have e1 : (o :: l).length + m = (l.length + m) + 1 := by simp; omega
    rw [e1]
    exact AnyS_first ht h0 _ listed O e hO (Region.free_spec h0 hf) (by simpa using hr) hy
      (lex_any ht hO l (k + 1) _ _ (fun j hj => by have := hl (j + 1) (by simpa using hj); simpa [Nat.add_assoc, Nat.add_comm 1 j] using this) hB' hK)
/-- a region that draws, stores and makes room -/
theorem W_drawS {s : St} {id : Nat} {l : List Oper} (m0 : Nat) (r : List (List Nat)) {Om : Objs} (hm : P.follows .mixedOrders = true) (hnd : nodef l = true) (hle : m0 ≤ l.length) (hO : OSub Om s.O) (hB : qA l.toArray (l.length - m0) r (l.take m0).length 0 (Array.replicate l.length false) = true)
    (h : LexS P nt lo l.toArray s.K Om (l.take m0) s.e (TailA P nt lo l.toArray s.K Om (fun e O => Q .normal ⟨e, O.1, s.K, O.2⟩) r (s.O, s.nx))) : W P nt lo (.region id l.toArray true) s Q := by
  intro β a w hr
  refine wpIn_region_any hm (wpY_in (by simpa using hnd) _ _ _ _ ?_)
  have hdraw : Rel β nt lo s a { w with drawn := w.drawn + 1 } := by
    obtain ⟨hd, μ, F, hE, hX⟩ := hr
    have hb : Below w.heap.size w { w with drawn := w.drawn + 1 } := ⟨rfl, rfl, rfl, Nat.le_refl _, fun _ _ => rfl⟩
    exact ⟨hd.keep ⟨Nat.le_refl _, fun _ _ h _ => h⟩, μ, F, hE, ⟨hX.s.keep hb, hX.fa, hX.fb, hX.m0, hX.f0, hX.lo0, hX.lo1, hX.dzl⟩⟩
  let G : Env → Objs × Nat → Prop := fun e O => ∃ e0, EqE e e0 ∧ Q .normal ⟨e0, O.1, s.K, O.2⟩
  have upL : ∀ (l' : List Nat) (O : Objs × Nat) (e : Env), TailL P nt lo l.toArray s.K Om (fun e O => Q .normal ⟨e, O.1, s.K, O.2⟩) l' O e → TailL P nt lo l.toArray s.K Om G l' O e := by
    intro l'
    induction l' with
    | nil => intro O e h; exact ⟨e, fun _ => rfl, h⟩
    | cons k l' ih => intro O e ⟨o, v, O', h0, h1, h2, h3⟩; exact ⟨o, v, O', h0, h1, h2, ih _ _ h3⟩
  have up : ∀ (r : List (List Nat)) (O : Objs × Nat) (e : Env), TailA P nt lo l.toArray s.K Om (fun e O => Q .normal ⟨e, O.1, s.K, O.2⟩) r O e → TailA P nt lo l.toArray s.K Om G r O e := by
    intro r
    induction r with
    | nil => intro O e h; trivial
    | cons x r ih =>
      intro O e h
      cases r with
      | nil => exact upL _ _ _ h
      | cons y r => exact ⟨upL _ _ _ h.1, ih _ _ h.2⟩
  have upX : ∀ (l' : List Oper) (e : Env) (H H' : Env → Prop), (∀ e, H e → H' e) → LexS P nt lo l.toArray s.K Om l' e H → LexS P nt lo l.toArray s.K Om l' e H' := by
    intro l'
    induction l' with
    | nil => intro e H H' hh h; exact hh e h
    | cons o l' ih => intro e H H' hh ⟨v, h1, h2⟩; exact ⟨v, h1, ih _ _ _ hh h2⟩
  have hget : ∀ j, j < (l.take m0).length → (l.take m0)[j]? = l.toArray[0 + j]? := by
    intro j hj
    have h1 : j < m0 := by rw [List.length_take] at hj; omega
    simp [List.getElem?_take, h1]
  have key := lex_any (P := P) (nt := nt) (lo := lo) (ops := l.toArray) (K := s.K) (G := G) (fun O e e' he ⟨e0, h1, h2⟩ => ⟨e0, fun t => (he t).symm.trans (h1 t), h2⟩) (m := l.length - m0) (r := r) (O := (s.O, s.nx)) hO
    (l.take m0) 0 (Array.replicate l.length false) s.e hget hB (upX _ _ _ _ (fun e h => up _ _ _ h) h)
  have := AnyS.sound (R := fun e a' w' => ∃ s', Q e s' ∧ Rel β nt lo s' a' w') (β := β) (fun e O ⟨e0, h1, h2⟩ a w hr => ⟨_, h2, hr.eqE h1⟩) _ _ _ _ key a _ hdraw
  have hsz : (l.take m0).length + (l.length - m0) = l.toArray.size := by simp; omega
  rw [hsz] at this
  have e1 : Array.replicate l.toArray.size false = Array.replicate l.length false := by simp
  rw [e1]
  exact this
/-! steps -/
theorem Ys_val (hT : Tab.Ok P T) {M O : Objs} {nx : Nat} {o : Oper} {e : Env} {c : Prop} {v : AV} (hg : o.guard = none) (h : ave T M (ev e) o.op = some (c, v)) (hc : c) (hs : OSub M O) : Ys P nt lo ops K (O, nx) o v e (O, nx) := by
  refine fun β a w e' he hr => .inl ⟨wanted_none hg _, fun K' Q' hk => ?_⟩
  obtain ⟨hd, μ, F, hE, hX⟩ := hr
  have h' : ave T M (ev e') o.op = some (c, v) := by rw [← h]; exact ave_congr (ev_on he)
  obtain ⟨cv, hrun, hv⟩ := ave_sound hT (fun x => hE.ev x) (hX.s.o.forget hs) o h' hc
  unfold Oper.wp
  rw [hrun]
  exact hk _ w (Rel.put (s := ⟨e', O, K, nx⟩) hd hE hv hX)
theorem Ys_valg (hT : Tab.Ok P T) {M O : Objs} {nx : Nat} {o : Oper} {e : Env} {v : AV} {j d : Nat} {want g : Bool} (hg : o.guard = some (j, want)) (hd : (ops[j]?).bind (·.dst) = some d) (hdn : Nat.blt d nt = true) (hgc : gcond want (get e d) = some g)
    (h : g = true → Av T M (ev e) o.op v) (hs : OSub M O) : Ys P nt lo ops K (O, nx) o (.gd g v) e (O, nx) := by
  intro β a w e' he hr
  obtain ⟨hdf, μ, F, hE, hX⟩ := hr
  have hw := wanted_gcond hg hd hdn hE (by rw [guard_on hg hd he]; exact hgc)
  cases g with
  | true =>
    refine .inl ⟨hw, fun K' Q' hk => ?_⟩
    obtain ⟨c, h1, hc⟩ := h rfl
    have h' : ave T M (ev e') o.op = some (c, v) := by rw [← h1]; exact ave_congr (ev_on he)
    obtain ⟨cv, hrun, hv⟩ := ave_sound hT (fun x => hE.ev x) (hX.s.o.forget hs) o h' hc
    unfold Oper.wp
    rw [hrun]
    exact hk _ w (Rel.put (s := ⟨e', O, K, nx⟩) hdf hE (.gd (fun _ => hv) (fun h => by cases h)) hX)
  | false => exact .inr ⟨hw, Rel.put (s := ⟨e', O, K, nx⟩) hdf hE (.gd (fun h => by cases h) (fun _ => rfl)) hX⟩
theorem Ys_call {O : Objs} {nx : Nat} {o : Oper} {e : Env} {c : Call} (ho : o.op = .call c) (hgd : o.guard = none) {g : FuncId} {ags : List AV} {p : Prop} (h : aCall (ev e) c = some (p, g, ags)) (hp : p)
    (hg : (ags.map demA).all grA = true) {r : AV} (hr : Ok P g (ags.map demA) r) : Ys P nt lo ops K (O, nx) o r e (O, nx) := by
  refine fun β a w e' he hr' => .inl ⟨wanted_none hgd _, fun K' Q' hk => ?_⟩
  obtain ⟨hd, μ, F, hE, hX⟩ := hr'
  have h' : aCall (ev e') c = some (p, g, ags) := by
    rw [← h]; refine aCall_congr (fun x hx => ev_on he x ?_)
    rw [ho]; exact hx
  exact call_run (s := ⟨e', O, K, nx⟩) hd hE hX ho h' hp hg hr (fun cv F' w' hd' hv hE' hX' => hk _ w' (Rel.put (s := ⟨e', O, K, nx⟩) hd' hE' (hv.mono (Pm.le0 _) (fun _ _ q => q)) hX'))
theorem Ys_callg {O : Objs} {nx : Nat} {o : Oper} {e : Env} {c : Call} (ho : o.op = .call c) {j d : Nat} {want gb : Bool} (hgd : o.guard = some (j, want)) (hdj : (ops[j]?).bind (·.dst) = some d) (hdn : Nat.blt d nt = true) (hgc : gcond want (get e d) = some gb)
    {g : FuncId} {ags : List AV} {p : Prop} (h : aCall (ev e) c = some (p, g, ags)) (hp : gb = true → p)
    (hg : (ags.map demA).all grA = true) {r : AV} (hr : gb = true → Ok P g (ags.map demA) r) : Ys P nt lo ops K (O, nx) o (.gd gb r) e (O, nx) := by
  intro β a w e' he hr'
  obtain ⟨hd, μ, F, hE, hX⟩ := hr'
  have hw := wanted_gcond hgd hdj hdn hE (by rw [guard_on hgd hdj he]; exact hgc)
  cases gb with
  | true =>
    refine .inl ⟨hw, fun K' Q' hk => ?_⟩
    have h' : aCall (ev e') c = some (p, g, ags) := by
      rw [← h]; refine aCall_congr (fun x hx => ev_on he x ?_)
      rw [ho]; exact hx
    exact call_run (s := ⟨e', O, K, nx⟩) hd hE hX ho h' (hp rfl) hg (hr rfl) (fun cv F' w' hd' hv hE' hX' => hk _ w' (Rel.put (s := ⟨e', O, K, nx⟩) hd' hE' (.gd (fun _ => hv.mono (Pm.le0 _) (fun _ _ q => q)) (fun h => by cases h)) hX'))
  | false => exact .inr ⟨hw, Rel.put (s := ⟨e', O, K, nx⟩) hd hE (.gd (fun h => by cases h) (fun _ => rfl)) hX⟩
variable {op : Op} {ty : TypeId} {pos : String} {after : Array Edge} {d : Nat} {rest : List Oper} {e : Env} {v : AV} {H : Env → Prop} {c : Prop} {O : Objs} {nx : Nat} {k : Nat} {ks : List Nat}
theorem S_nil (h : H e) : LexS P nt lo ops K Om [] e H := h
theorem S_v (hT : Tab.Ok P T) (h : Av T Om (ev e) op v) (hd : Nat.blt d nt = true) (hn : LexS P nt lo ops K Om rest ((d, v) :: e) H) : LexS P nt lo ops K Om (⟨some d, op, ty, pos, after, none⟩ :: rest) e H :=
  ⟨v, fun O' hs => Ys_val hT rfl h.choose_spec.1 h.choose_spec.2 hs, by dsimp only; rw [wr_some hd]; exact hn⟩
theorem S_g (hT : Tab.Ok P T) {j dj : Nat} {want g : Bool} (hj : (ops[j]?).bind (·.dst) = some dj) (hg : gcond want (get e dj) = some g) (h : g = true → Av T Om (ev e) op v) (hd : Nat.blt d nt = true) (hdj : Nat.blt dj nt = true)
    (hn : LexS P nt lo ops K Om rest ((d, .gd g v) :: e) H) : LexS P nt lo ops K Om (⟨some d, op, ty, pos, after, some (j, want)⟩ :: rest) e H :=
  ⟨.gd g v, fun O' hs => Ys_valg hT rfl hj hdj hg h hs, by dsimp only; rw [wr_some hd]; exact hn⟩
theorem S_call {cl : Call} {f : FuncId} {ags bs : List AV} {r : AV} (h : aCall (ev e) cl = some (c, f, ags)) (hd : Nat.blt d nt = true) (hc : c) (hb : ags.map demA = bs) (hg : bs.all grA = true) (hr : Ok P f bs r)
    (hn : LexS P nt lo ops K Om rest ((d, r) :: e) H) : LexS P nt lo ops K Om (⟨some d, .call cl, ty, pos, after, none⟩ :: rest) e H := by
  subst hb
  exact ⟨r, fun O' hs => Ys_call rfl rfl h hc hg hr, by dsimp only; rw [wr_some hd]; exact hn⟩
theorem S_callg {cl : Call} {f : FuncId} {ags bs : List AV} {r : AV} {j dj : Nat} {want g : Bool} (hj : (ops[j]?).bind (·.dst) = some dj) (hgc : gcond want (get e dj) = some g) (h : aCall (ev e) cl = some (c, f, ags)) (hd : Nat.blt d nt = true) (hdj : Nat.blt dj nt = true) (hc : g = true → c) (hb : ags.map demA = bs) (hg : bs.all grA = true) (hr : g = true → Ok P f bs r)
    (hn : LexS P nt lo ops K Om rest ((d, .gd g r) :: e) H) : LexS P nt lo ops K Om (⟨some d, .call cl, ty, pos, after, some (j, want)⟩ :: rest) e H := by
  subst hb
  exact ⟨.gd g r, fun O' hs => Ys_callg rfl rfl hj hdj hgc h hc hg hr, by dsimp only; rw [wr_some hd]; exact hn⟩
/-- the tail: what is forgotten, what stands -/
def forget : List Nat → Objs → Objs
  | [], O => O
  | i :: l, O => (i, none) :: forget l O
theorem OSub_forget : ∀ (l : List Nat) (O : Objs), OSub (forget l O) O
  | [], O => .refl O
  | i :: l, O => fun id o h => by
    simp only [forget, lk_cons] at h
    split at h
    · cases h
    · exact OSub_forget l O id o h
theorem OSub.set {M O : Objs} {id : Nat} {o : Option Ob} (h : OSub M O) (hn : lk M id = none) : OSub M ((id, o) :: O) := fun i ob hi => by
  rw [lk_cons]
  split
  · rename_i he; subst he; rw [hn] at hi; cases hi
  · exact h i ob hi
def idOf : AV → Nat
  | .ptr id _ _ => id
  | .row id _ _ => id
  | _ => 0
theorem W_drawF {s : St} {id : Nat} {l : List Oper} (ids : Env → List Nat) (m0 : Nat) (r : List (List Nat)) (hm : P.follows .mixedOrders = true) (hnd : nodef l = true) (hle : m0 ≤ l.length) (hB : qA l.toArray (l.length - m0) r (l.take m0).length 0 (Array.replicate l.length false) = true)
    (h : LexS P nt lo l.toArray s.K (forget (ids s.e) s.O) (l.take m0) s.e (TailA P nt lo l.toArray s.K (forget (ids s.e) s.O) (fun e O => Q .normal ⟨e, O.1, s.K, O.2⟩) r (s.O, s.nx))) : W P nt lo (.region id l.toArray true) s Q :=
  W_drawS m0 r hm hnd hle (OSub_forget _ _) hB h
variable {G : Env → Objs × Nat → Prop}
theorem TT_nil (h : G e (O, nx)) : TailL P nt lo ops K Om G [] (O, nx) e := h
theorem TT_one {l : List Nat} (h : TailL P nt lo ops K Om G l (O, nx) e) : TailA P nt lo ops K Om G [l] (O, nx) e := h
theorem TT_two {l l' : List Nat} (h : TailL P nt lo ops K Om G l (O, nx) e) (h' : TailL P nt lo ops K Om G l' (O, nx) e) : TailA P nt lo ops K Om G [l, l'] (O, nx) e := ⟨h, h'⟩
theorem TT_v (hT : Tab.Ok P T) (hs : OSub Om O) (hk : ops[k]? = some ⟨some d, op, ty, pos, after, none⟩) (h : Av T O (ev e) op v) (hd : Nat.blt d nt = true) (hn : OSub Om O → TailL P nt lo ops K Om G ks (O, nx) ((d, v) :: e)) : TailL P nt lo ops K Om G (k :: ks) (O, nx) e :=
  ⟨_, v, (O, nx), hk, hs, Ys_val hT rfl h.choose_spec.1 h.choose_spec.2 (.refl O), by dsimp only; rw [wr_some hd]; exact hn hs⟩
theorem TT_alloc (hT : Tab.Ok P T) (hsub : OSub Om O) {t : Nat} (hk : ops[k]? = some ⟨some d, .alloc t, ty, pos, after, none⟩) {z : List AV} {n : Nat} (hz : (T.at t).zero = z) (hone : z.all AV.one = true) (hn' : z.length = n) (hzn : Nat.beq (T.at t).size 0 = false) (hd : Nat.blt d nt = true) (hm : lk Om nx = none)
    (hn : OSub Om ((nx, some ⟨t, n, 0, [z]⟩) :: O) → TailL P nt lo ops K Om G ks ((nx, some ⟨t, n, 0, [z]⟩) :: O, nx + 1) ((d, .ptr nx 0 0) :: e)) : TailL P nt lo ops K Om G (k :: ks) (O, nx) e := by
  refine ⟨_, .ptr nx 0 0, ((nx, some ⟨t, n, 0, [z]⟩) :: O, nx + 1), hk, hsub.set hm, fun β a w e' he hr => .inl ⟨wanted_none rfl _, fun K' Q' hk' => ?_⟩, by dsimp only; rw [wr_some hd]; exact hn (hsub.set hm)⟩
  exact alloc_wp (s := ⟨e', O, K, nx⟩) hT rfl hz (by intro h; rw [h] at hzn; simp at hzn) hone hn' hr hk'
theorem TT_store (hT : Tab.Ok P T) (hsub : OSub Om O) {t : Nat} {x y : Operand} (hkk : ops[k]? = some ⟨none, .store t x y, ty, pos, after, none⟩) {id i j : Nat} (hx : strip (ev e x) = .ptr id i j) {oty osz ofz : Nat} {oes : List (List AV)} (hob : lk O id = some ⟨oty, osz, ofz, oes⟩) (hv : strip (ev e y) = v) {cs : List AV} (hcs : v.cells = cs) (hp : v.plain = true) (hone : cs.all AV.one = true) {es' : List (List AV)} (hes : setEl oes i j cs = es')
    (hk : (Nat.beq (T.at t).size cs.length && !(Nat.beq cs.length 0) && Nat.ble (j + cs.length) osz) = true) (hi : Nat.blt i oes.length = true) (hf : Nat.ble ofz i = true) (hm : lk Om id = none) (hs : sg (ev e x) ∧ sg (ev e y))
    (hn : OSub Om ((id, some ⟨oty, osz, ofz, es'⟩) :: O) → TailL P nt lo ops K Om G ks ((id, some ⟨oty, osz, ofz, es'⟩) :: O, nx) e) : TailL P nt lo ops K Om G (k :: ks) (O, nx) e := by
  simp only [Bool.and_eq_true, Bool.not_eq_true'] at hk
  obtain ⟨⟨k1, k2⟩, k3⟩ := hk
  refine ⟨_, .und, (_, nx), hkk, hsub.set hm, fun β a w e' he hr => .inl ⟨wanted_none rfl _, fun K' Q' hk' => ?_⟩, hn (hsub.set hm)⟩
  have hex : ev e' x = ev e x := ev_on he x (by simp [Op.operands])
  have hey : ev e' y = ev e y := ev_on he y (by simp [Op.operands])
  exact store_wp (s := ⟨e', O, K, nx⟩) hT rfl (by rw [hex]; exact hx) (by rw [hex]; exact hs.1) hob (fun F μ cv h => by rw [hey, hv] at h; exact h) (by rw [hey]; exact hs.2) hcs hp hone ⟨Nat.eq_of_beq_eq_true k1, fun h => by rw [h] at k2; simp at k2⟩ (by simpa [Nat.blt_eq] using hi) (Nat.le_of_ble_eq_true k3) (Nat.le_of_ble_eq_true hf) hes hr hk'
end
end Go.AM
end
section
namespace Go.AM
open Go.RowKit
set_option linter.unusedVariables false
set_option linter.unusedSimpArgs false
section
variable {P : Program} {T : Tab} {nt lo : Nat} {ρ : Nat → Nat}
def AV.ren (ρ : Nat → Nat) : AV → AV
  | .ptr id i j => .ptr (ρ id) i j
  | .row id i n => .row (ρ id) i n
  | .app id l => .app (ρ id) l
  | v => v
def AV.renA (ρ : Nat → Nat) : AV → AV
  | .agg l => .agg (l.map (AV.ren ρ))
  | .tup l => .tup (l.map (AV.ren ρ))
  | .fn f fs cs => .fn f (fs.map (AV.ren ρ)) (cs.map (AV.ren ρ))
  | v => v.ren ρ
def Pm.rn (μ : Pm) (ρ : Nat → Nat) (n : Nat) : Pm := fun i => if i < n then μ (ρ i) else none
theorem Pm.rn_lt (μ : Pm) {n i : Nat} (h : i < n) : μ.rn ρ n i = μ (ρ i) := if_pos h
theorem RelV.unren {F : Mem} {μ : Pm} {n : Nat} {v : AV} {cv : Value} (h : RelV F μ (v.ren ρ) cv) (hl : v.lt n = true) : RelV F (μ.rn ρ n) v cv := by
  cases v with
  | ptr id i j =>
    cases h with
    | ptr h => exact .ptr (by simp only [AV.lt, Nat.blt_eq] at hl; rw [Pm.rn_lt _ hl]; exact h)
  | row id i n =>
    cases h with
    | row h hn hm ha => exact .row (by simp only [AV.lt, Nat.blt_eq] at hl; rw [Pm.rn_lt _ hl]; exact h) hn hm ha
  | app id l =>
    cases h with
    | app h ht h1 h2 => exact .app h (by simp only [AV.lt, Nat.blt_eq] at hl; rw [Pm.rn_lt _ hl]; exact ht) h1 h2
  | und => exact .und _
  | int k n => cases h; exact .int k n
  | bool b => cases h; exact .bool b
  | str s => cases h; exact .str s
  | nilp => cases h; exact .nilp
  | nils => cases h; exact .nils
  | nilf => cases h; exact .nilf
  | yl l => cases h; exact .yl l
  | ro l =>
    cases h with
    | ro0 => exact .ro0
    | ro cv hz hc hr hn hm ha => exact .ro cv hz hc hr hn hm ha
  | rptr l =>
    cases h with
    | rptr cv hc hr => exact .rptr cv hc hr
  | fn f fs cs =>
    cases fs with
    | cons x l => cases cs <;> simp [AV.lt] at hl
    | nil =>
      cases cs with
      | cons x l => simp [AV.lt] at hl
      | nil =>
        cases h with
        | fn hA hC ha hc => exact .fn hA hC (fun j v hj => by simp at hj) (fun j v hj => by simp at hj)
  | agg l => simp [AV.lt] at hl
  | tup l => simp [AV.lt] at hl
  | gd b v => simp [AV.lt] at hl
  | pin c v => cases v <;> first | (simp [AV.lt] at hl; done) | (cases h with | pin h => cases h with | rptr cv hc hr => exact .pin (.rptr cv hc hr))
theorem RelV.unrenA {F : Mem} {μ : Pm} {n : Nat} {v : AV} {cv : Value} (h : RelV F μ (v.renA ρ) cv) (hl : v.ltA n = true) : RelV F (μ.rn ρ n) v cv := by
  cases v with
  | agg l =>
    cases h with
    | agg hA h => exact .agg (by simpa using hA) (fun j v hj => (h j (v.ren ρ) (by simp [hj])).unren (List.all_eq_true.1 hl v (List.mem_of_getElem? hj)))
  | tup l =>
    cases h with
    | tup hA h => exact .tup (by simpa using hA) (fun j v hj => (h j (v.ren ρ) (by simp [hj])).unren (List.all_eq_true.1 hl v (List.mem_of_getElem? hj)))
  | fn f fs cs =>
    simp only [AV.ltA, Bool.and_eq_true] at hl
    cases h with
    | fn hA hC ha hc => exact .fn (by simpa using hA) (by simpa using hC) (fun j v hj => (ha j (v.ren ρ) (by simp [hj])).unren (List.all_eq_true.1 hl.1 v (List.mem_of_getElem? hj))) (fun j v hj => (hc j (v.ren ρ) (by simp [hj])).unren (List.all_eq_true.1 hl.2 v (List.mem_of_getElem? hj)))
  | _ => exact RelV.unren h hl
def Ob.ren (ρ : Nat → Nat) (o : Ob) : Ob := ⟨o.ty, o.sz, o.fz, o.es.map (·.map (AV.ren ρ))⟩
def subR (ρ : Nat → Nat) : Env → Env → Prop
  | [], _ => True
  | (t, v) :: r, e => get e t = v.renA ρ ∧ subR ρ r e
theorem subR_get : ∀ {m e : Env}, subR ρ m e → ∀ t, get m t = .und ∨ ∃ v, (t, v) ∈ m ∧ get m t = v ∧ get e t = v.renA ρ
  | [], e, _, t => .inl rfl
  | (x, v) :: r, e, h, t => by
    rw [get_cons]
    split
    · rename_i he; subst he; exact .inr ⟨v, by simp, rfl, h.1⟩
    · rcases subR_get h.2 t with h1 | ⟨v', h1, h2, h3⟩
      · exact .inl h1
      · exact .inr ⟨v', by simp [h1], h2, h3⟩
def subRO (ρ : Nat → Nat) : Objs → Objs → Prop
  | [], _ => True
  | (id, o) :: r, O => (o = none ∨ lk O (ρ id) = o.map (Ob.ren ρ)) ∧ subRO ρ r O
theorem subRO_get : ∀ {m O : Objs}, subRO ρ m O → ∀ id o, lk m id = some o → lk O (ρ id) = some (o.ren ρ)
  | [], O, _, id, o, h => by simp [lk] at h
  | (x, v) :: r, O, h, id, o, ho => by
    rw [lk_cons] at ho
    split at ho
    · rename_i he; subst he
      rcases h.1 with h1 | h1
      · rw [h1] at ho; cases ho
      · rw [h1, ho]; rfl
    · exact subRO_get h.2 id o ho
def subRK (ρ : Nat → Nat) : Toks → Toks → Prop
  | [], _ => True
  | (id, o) :: r, K => (o = none ∨ lt K (ρ id) = o) ∧ subRK ρ r K
theorem subRK_get : ∀ {m K : Toks}, subRK ρ m K → ∀ id o, lt m id = some o → lt K (ρ id) = some o
  | [], K, _, id, o, h => by simp [lt] at h
  | (x, v) :: r, K, h, id, o, ho => by
    rw [lt_cons] at ho
    split at ho
    · rename_i he; subst he
      rcases h.1 with h1 | h1
      · rw [h1] at ho; cases ho
      · rw [h1]; exact ho
    · exact subRK_get h.2 id o ho
def injB (ρ : Nat → Nat) (n : Nat) : Bool := (List.range n).all fun i => (List.range n).all fun j => Nat.beq i j || !Nat.beq (ρ i) (ρ j)
theorem inj_of {n : Nat} (h : injB ρ n = true) : ∀ i j, i < n → j < n → ρ i = ρ j → i = j := by
  intro i j hi hj he
  have := List.all_eq_true.1 (List.all_eq_true.1 h i (by simpa using hi)) j (by simpa using hj)
  simp only [Bool.or_eq_true, Bool.not_eq_true'] at this
  rcases this with h1 | h1
  · exact Nat.eq_of_beq_eq_true h1
  · rw [he] at h1; simp at h1
theorem le_ren {e m : Env} {O O' : Objs} {K K' : Toks} {nx n : Nat} (h : subR ρ m e) (hO : subRO ρ O' O) (hK : subRK ρ K' K) (hj : injB ρ n = true) (hfix : ((List.range lo).all fun i => ρ i == i) = true) (hlo : Nat.ble lo n = true) (hme : ltE n m = true) (hmO' : ltOB n O' = true) (hmK : ltK n K' = true) : St.le ⟨e, O, K, nx⟩ ⟨m, O', K', n⟩ lo nt := by
  have hmO := ltO_of hmO'
  intro β a w ⟨hd, μ, F, hE, hX⟩
  have hll := Nat.le_of_ble_eq_true hlo
  have hin : ∀ {i : Nat}, i < n → μ.rn ρ n i = μ (ρ i) := fun {i} hi => if_pos hi
  have hinj := inj_of hj
  have hlo' : ∀ {i : Nat}, i < lo → ρ i = i := fun {i} hi => beq_iff_eq.1 (List.all_eq_true.1 hfix i (by simpa using hi))
  refine ⟨hd, μ.rn ρ n, F, ⟨hE.size, fun t => ?_⟩, ⟨⟨⟨hX.s.o.below, hX.s.o.base, fun id (hid : n ≤ id) => if_neg (by omega), fun id o ho => ?_, fun id id' o o' b cs sz b' cs' sz' hne ho ho' hm hm' => ?_, hX.s.o.mem, fun id o b cs sz ho hm => ?_⟩, ⟨fun id ty sz k hid => ?_, fun i i' ty1 sz1 ty2 sz2 m1 m2 bb bb' c1 c2 cap1 cap2 hne q1 q2 hm1 hm2 => ?_⟩⟩, hX.fa, hX.fb, ⟨fun id b cs sz hi => ?_, fun id k cv hi => ?_⟩, hX.f0, hX.lo0, hll, hX.dzl⟩⟩
  · show RelV F _ (get m t) _
    rcases subR_get h t with h1 | ⟨v, h1, h2, h3⟩
    · rw [h1]; exact .und _
    · have hr := hE.rel t
      dsimp only at hr
      rw [h3] at hr
      rw [h2]
      exact hr.unrenA (List.all_eq_true.1 hme (t, v) h1)
  · obtain ⟨h1, h2⟩ := ltO_get hmO id o ho
    obtain ⟨b, cs, cur, k1, k2, k3, k4, k5, k6, k7⟩ := hX.s.o.obj (ρ id) (o.ren ρ) (subRO_get hO id o ho)
    refine ⟨b, cs, cur, by rw [hin h1]; exact k1, k2, k3, k4, by simpa [Ob.ren] using k5, fun i c p1 => ?_, fun i c j v p1 p2 => ?_⟩
    · have := k6 i (c.map (AV.ren ρ)) (by simp [Ob.ren, p1])
      simpa [Ob.ren] using this
    · have := k7 i (c.map (AV.ren ρ)) j (v.ren ρ) (by simp [Ob.ren, p1]) (by simp [p2])
      exact ⟨this.1.unren (h2 c (List.mem_of_getElem? p1) v (List.mem_of_getElem? p2)), this.2⟩
  · rw [hin (ltO_get hmO id o ho).1] at hm
    rw [hin (ltO_get hmO id' o' ho').1] at hm'
    exact hX.s.o.apart (ρ id) (ρ id') (o.ren ρ) (o'.ren ρ) _ _ _ _ _ _ (fun h => hne (hinj _ _ (ltO_get hmO id o ho).1 (ltO_get hmO id' o' ho').1 h)) (subRO_get hO id o ho) (subRO_get hO id' o' ho') hm hm'
  · rw [hin (ltO_get hmO id o ho).1] at hm
    exact hX.s.o.froz (ρ id) (o.ren ρ) _ _ _ (subRO_get hO id o ho) hm
  · have hid' := ltK_get hmK id _ hid
    obtain ⟨cv, k1, k2, k3⟩ := hX.s.t.tok (ρ id) ty sz k (subRK_get hK id _ hid)
    refine ⟨cv, by rw [hin hid']; exact k1, k2, ?_⟩
    rcases k3 with k3 | ⟨b1, cap, cur1, h4, h5, h50, h6, h7, h8, h9, h10, h11⟩
    · exact .inl k3
    · refine .inr ⟨b1, cap, cur1, h4, h5, h50, h6, h7, h8, h9, h10, fun id' q cs' sz' hq hm => ?_⟩
      rw [hin (ltO_get hmO id' q hq).1] at hm
      exact h11 (ρ id') (q.ren ρ) _ _ (subRO_get hO id' q hq) hm
  · rw [hin (ltK_get hmK i _ q1)] at hm1
    rw [hin (ltK_get hmK i' _ q2)] at hm2
    exact hX.s.t.apart (ρ i) (ρ i') _ _ _ _ _ _ _ _ _ _ _ _ (fun h => hne (hinj _ _ (ltK_get hmK i _ q1) (ltK_get hmK i' _ q2) h)) (subRK_get hK i _ q1) (subRK_get hK i' _ q2) hm1 hm2
  · have hlt : id < lo := by
      rcases Nat.lt_or_ge id lo with h | h
      · exact h
      · rw [hX.lo0 id h] at hi; cases hi
    rw [hin (by omega), hlo' hlt]; exact hX.m0.1 _ _ _ _ hi
  · have hlt : id < lo := by
      rcases Nat.lt_or_ge id lo with h | h
      · exact h
      · rw [hX.lo0 id h] at hi; cases hi
    obtain ⟨n', cv', k1, k2, k3⟩ := hX.m0.2 _ _ _ hi
    exact ⟨n', cv', by rw [hin (by omega), hlo' hlt]; exact k1, k2, k3⟩
/-- a whole row of the call's own is what may be appended to from now on -/
theorem le_tok {e : Env} {O : Objs} {K : Toks} {nx t id n : Nat} {ob : Ob} {l : List (List AV)} (hg : get e t = .row id 0 n) (hob : lk O id = some ob) (hn : n = ob.es.length) (hfz : Nat.ble ob.fz n = true) (hsz : Nat.blt 0 ob.sz = true) (hl : ob.es.map (·.map demC) = l) (hgr : l.all (fun c => c.all grC) = true) :
    St.le ⟨e, O, K, nx⟩ ⟨(t, .app nx l) :: e, (id, none) :: O, (nx, some (ob.ty, ob.sz, n)) :: K, nx + 1⟩ lo nt := by
  intro β a w ⟨hd, μ, F, hE, hX⟩
  have hr := hE.rel t
  dsimp only at hr
  rw [hg] at hr
  obtain ⟨μ', F', hS, hv, hle, hF, hb⟩ := hX.s.rowTok hob hr hn (Nat.le_of_ble_eq_true hfz) (by simpa [Nat.blt_eq] using hsz) hl hgr
  refine ⟨hd, μ', F', ⟨hE.size, fun q => ?_⟩, ⟨hS, fun a v q => hF a v (hX.fa a v q), fun a v q hq => hX.fb a v (hb a v q hq) hq, hX.m0.trans hle, fun a v q => hF a v (hX.f0 a v q), hX.lo0, Nat.le_succ_of_le hX.lo1, hX.dzl⟩⟩
  show RelV F' μ' (get ((t, .app nx l) :: e) q) _
  rw [get_cons]
  split
  · rename_i he; subst he; exact hv
  · exact (hE.rel q).mono hle hF
theorem L_tok {ops : Array Oper} {rest : List Oper} {Q : Exit → St → Prop} {e : Env} {O : Objs} {K : Toks} {nx t id n : Nat} {ty sz fz : Nat} {es l : List (List AV)} (hg : get e t = .row id 0 n) (hob : lk O id = some ⟨ty, sz, fz, es⟩) (hn : n = es.length) (hfz : Nat.ble fz n = true) (hsz : Nat.blt 0 sz = true) (hl : es.map (·.map demC) = l) (hgr : l.all (fun c => c.all grC) = true)
    (h : WL P nt lo ops rest ⟨(t, .app nx l) :: e, (id, none) :: O, (nx, some (ty, sz, n)) :: K, nx + 1⟩ Q) : WL P nt lo ops rest ⟨e, O, K, nx⟩ Q :=
  WL.of_le (le_tok hg hob hn hfz hsz hl hgr) h
theorem W_tok {c : Code} {Q : Exit → St → Prop} {e : Env} {O : Objs} {K : Toks} {nx t id n : Nat} {ty sz fz : Nat} {es l : List (List AV)} (hg : get e t = .row id 0 n) (hob : lk O id = some ⟨ty, sz, fz, es⟩) (hn : n = es.length) (hfz : Nat.ble fz n = true) (hsz : Nat.blt 0 sz = true) (hl : es.map (·.map demC) = l) (hgr : l.all (fun c => c.all grC) = true)
    (h : W P nt lo c ⟨(t, .app nx l) :: e, (id, none) :: O, (nx, some (ty, sz, n)) :: K, nx + 1⟩ Q) : W P nt lo c ⟨e, O, K, nx⟩ Q :=
  W.of_le (le_tok hg hob hn hfz hsz hl hgr) h
/-- a nil slice may be appended to -/
theorem le_nil {e : Env} {O : Objs} {K : Toks} {nx t : Nat} (ty : Nat) {sz : Nat} (hsz : Nat.blt 0 sz = true) (hg : get e t = .nils) : St.le ⟨e, O, K, nx⟩ ⟨(t, .app nx []) :: e, O, (nx, some (ty, sz, 0)) :: K, nx + 1⟩ lo nt := by
  intro β a w ⟨hd, μ, F, hE, hX⟩
  have hr := hE.rel t
  dsimp only at hr
  rw [hg] at hr
  obtain ⟨hX1, hle1⟩ := hX.tokNil ty (sz := sz) (by simpa [Nat.blt_eq] using hsz)
  refine ⟨hd, _, F, ⟨hE.size, fun q => ?_⟩, hX1⟩
  show RelV F _ (get ((t, .app nx []) :: e) q) _
  rw [get_cons]
  split
  · rename_i he; subst he
    generalize a.tmps.getD t undef = cv at hr
    cases hr
    exact .app .ro0 (Pm.add_same _ _ _) (by simp) (fun _ => rfl)
  · exact (hE.rel q).mono hle1 (fun _ _ q => q)
theorem L_nils {ops : Array Oper} {rest : List Oper} {Q : Exit → St → Prop} {e : Env} {O : Objs} {K : Toks} {nx t : Nat} (ty sz : Nat) (hsz : Nat.blt 0 sz = true) (hg : get e t = .nils)
    (h : WL P nt lo ops rest ⟨(t, .app nx []) :: e, O, (nx, some (ty, sz, 0)) :: K, nx + 1⟩ Q) : WL P nt lo ops rest ⟨e, O, K, nx⟩ Q := WL.of_le (le_nil ty hsz hg) h
theorem W_nils {c : Code} {Q : Exit → St → Prop} {e : Env} {O : Objs} {K : Toks} {nx t : Nat} (ty sz : Nat) (hsz : Nat.blt 0 sz = true) (hg : get e t = .nils)
    (h : W P nt lo c ⟨(t, .app nx []) :: e, O, (nx, some (ty, sz, 0)) :: K, nx + 1⟩ Q) : W P nt lo c ⟨e, O, K, nx⟩ Q := W.of_le (le_nil ty hsz hg) h
/-- one thing is appended to a list of such -/
theorem L_app1 {Q : Exit → St → Prop} {ops : Array Oper} {rest : List Oper} {e : Env} {O : Objs} {K : Toks} {nx d : Nat} {ty : TypeId} {pos : String} {after : Array Edge} (hT : Tab.Ok P T) {α : Type} {f : α → List AV} {xs : List α} {v : α} {x y : Operand} {t tok el sz : Nat} (hx : strip (ev e x) = .app tok (xs.map f)) (hk : lt K tok = some (el, sz, xs.length)) (hkd : (T.at t).kind = .slice el) (hm : srcA O (strip (ev e y)) = some [f v])
    (hty : Nat.beq (T.at el).size sz && Nat.beq (T.at el).zero.length sz && !Nat.beq (T.at el).bytes 0 = true) (hs : sg (ev e x) ∧ sg (ev e y)) (hf : ∀ z, (f z).length = sz ∧ (f z).all grC = true) (hbytes : (xs.length + 1) * (T.at el).bytes ≤ 140737488355328) (hd : Nat.blt d nt = true)
    (hn : WL P nt lo ops rest ⟨(d, .app tok ((xs ++ [v]).map f)) :: e, O, (tok, some (el, sz, (xs ++ [v]).length)) :: K, nx⟩ Q) : WL P nt lo ops (⟨some d, .call { callee := .builtin .append, args := #[x, y], argTypes := #[t, t] }, ty, pos, after, none⟩ :: rest) ⟨e, O, K, nx⟩ Q := by
  refine L_app hT hx hk (by simp) hkd hm hty hs (allSz.map (fun x => (hf x).1) xs) (fun c hc => by rw [List.mem_singleton.1 hc]; exact (hf v).1) (by simpa using (hf v).2) (by simpa using hbytes) hd ?_
  have e1 : xs.map f ++ [f v] = (xs ++ [v]).map f := by simp
  rw [e1]
  simpa using hn
end
end Go.AM
end
section
namespace Go.AM
open Go.RowKit
set_option linter.unusedVariables false
set_option linter.unusedSimpArgs false
section
variable {P : Program} {T : Tab} {nt lo : Nat}
/-- a cell of the call's own isn't written any more -/
theorem le_freezeP {e : Env} {O : Objs} {K : Toks} {nx t id : Nat} {ty sz fz : Nat} {c c' : List AV} (hg : get e t = .ptr id 0 0) (hob : lk O id = some ⟨ty, sz, fz, [c]⟩) (hc : c.map demC = c') (hgr : c'.all grC = true) :
    St.le ⟨e, O, K, nx⟩ ⟨(t, .rptr c') :: e, (id, none) :: O, K, nx⟩ lo nt := by
  intro β a w ⟨hd, μ, F, hE, hX⟩
  have hr := hE.rel t
  dsimp only at hr
  rw [hg] at hr
  generalize hcv : a.tmps.getD t undef = cv at hr
  cases hr with
  | @ptr _ _ _ _ b cs sz' hm =>
    obtain ⟨b1, cs1, cur, k1, k2, k3, k4, k5, k6, k7⟩ := hX.s.o.obj id _ hob
    rw [hm] at k1; cases k1
    dsimp only at k3 k5 k6 k7
    have hlen : c.length = sz := k6 0 c rfl
    have hk := hX.s.kill id
    have hFle := memOf_le (F := F) (w := w) (b := b) (n := sz) hX.s.o.mem
    have hob' : ∀ {i : Nat} {q : Ob} {b2 cs2 sz2}, lk ((id, none) :: O) i = some q → μ i = some (.ob b2 cs2 sz2) → b2 ≠ b := by
      intro i q b2 cs2 sz2 hq hmi
      rw [lk_cons] at hq
      split at hq
      · cases hq
      · rename_i hne
        exact hX.s.o.apart i id q _ _ _ _ _ _ _ (Ne.symm hne) hq hob hmi hm
    refine ⟨hd, μ, memOf F w b sz, ⟨hE.size, fun q => ?_⟩, ⟨⟨⟨hk.o.below, hk.o.base, hk.o.fresh, fun i o ho => ?_, hk.o.apart, memOf_mem hX.s.o.mem, fun i o b2 cs2 sz2 ho hmi av v ha hab => ?_⟩, ⟨fun i ty' sz2 n hi => ?_, hk.t.apart⟩⟩,
      fun av v q => hFle av v (hX.fa av v q), fun av v q hq => hX.fb av v (by rwa [memOf_other (by omega)] at q) hq, hX.m0, fun av v q => hFle av v (hX.f0 av v q), hX.lo0, hX.lo1, hX.dzl⟩⟩
    · show RelV _ μ (get ((t, .rptr c') :: e) q) _
      rw [get_cons]
      split
      · rename_i he; subst he
        rw [hcv]
        have e0 : 0 * sz + 0 = 0 := by simp
        rw [e0]
        refine .rptr (fun j => cur.getD j undef) (fun j v hj => ?_) (fun j v hj => ?_)
        · rw [← hc, List.getElem?_map] at hj
          cases hq : c[j]? with
          | none => simp [hq] at hj
          | some u =>
            have hjl : j < sz := by rw [← hlen]; exact (List.getElem?_eq_some_iff.1 hq).1
            have h7 := k7 0 c j u rfl hq
            have hjc : j < cur.size := by simp at k5; omega
            rw [Nat.zero_mul, Nat.zero_add] at h7
            refine ⟨?_, h7.2⟩
            unfold memOf
            rw [Nat.zero_add, if_pos ⟨rfl, hjl, rfl⟩, cell_of_row w b j cur ty (0, 0) k3]
            simp [Array.getD, hjc]
        · rw [← hc, List.getElem?_map] at hj
          cases hq : c[j]? with
          | none => simp [hq] at hj
          | some u =>
            simp [hq] at hj; subst hj
            have h7 := k7 0 c j u rfl hq
            rw [Nat.zero_mul, Nat.zero_add] at h7
            refine (demC_rel h7.1 ?_).mono (Pm.le.refl _) hFle
            exact List.all_eq_true.1 hgr _ (by rw [← hc]; exact List.mem_map.2 ⟨u, List.mem_of_getElem? hq, rfl⟩)
      · exact (hE.rel q).mono (Pm.le.refl _) hFle
    · obtain ⟨b2, cs2, cur2, e1, e2, e3, e4, e5, e6, e7⟩ := hk.o.obj i o ho
      exact ⟨b2, cs2, cur2, e1, e2, e3, e4, e5, e6, fun i c j v p1 p2 => ⟨(e7 i c j v p1 p2).1.mono (Pm.le.refl _) hFle, (e7 i c j v p1 p2).2⟩⟩
    · exact hk.o.froz i o _ _ _ ho hmi av v (by rwa [memOf_other (by rw [hab]; exact hob' ho hmi)] at ha) hab
    · obtain ⟨cv1, g1, g2, g3⟩ := hk.t.tok i ty' sz2 n hi
      obtain ⟨cv2, r1, r2, r3⟩ := hX.s.t.tok i ty' sz2 n hi
      rw [g1] at r1; cases r1
      refine ⟨cv1, g1, g2, ?_⟩
      rcases g3 with g3 | ⟨b3, cap, cur3, h4, h5, h50, h6, h7, h8, h9, h10, h11⟩
      · exact .inl g3
      · refine .inr ⟨b3, cap, cur3, h4, h5, h50, h6, h7, h8, h9, fun av v ha hab => h10 av v ?_ hab, h11⟩
        have hne : b3 ≠ b := by
          rintro rfl
          rcases r3 with ⟨_, _, r⟩ | ⟨b4, _, _, r4, _, _, _, _, _, _, _, r11⟩
          · rw [h4] at r; cases r; omega
          · rw [h4] at r4; cases r4
            exact r11 id _ _ _ hob hm
        rwa [memOf_other (by rw [hab]; exact hne)] at ha
theorem L_freezeP {ops : Array Oper} {rest : List Oper} {Q : Exit → St → Prop} {e : Env} {O : Objs} {K : Toks} {nx t id : Nat} {ty sz fz : Nat} {c c' : List AV} (hg : get e t = .ptr id 0 0) (hob : lk O id = some ⟨ty, sz, fz, [c]⟩) (hc : c.map demC = c') (hgr : c'.all grC = true)
    (h : WL P nt lo ops rest ⟨(t, .rptr c') :: e, (id, none) :: O, K, nx⟩ Q) : WL P nt lo ops rest ⟨e, O, K, nx⟩ Q := WL.of_le (le_freezeP hg hob hc hgr) h
end
end Go.AM
end
section
namespace Go.AM
open Go.RowKit
set_option linter.unusedVariables false
set_option linter.unusedSimpArgs false
section
variable {P : Program} {T : Tab} {nt lo : Nat} {F : Mem} {μ : Pm}
theorem ro_slice {l : List (List AV)} {cv : Value} (h : RelV F μ (.ro l) cv) {sz p q : Nat} (hz : ∀ c ∈ l, c.length = sz) (hp : p ≤ q) (hq : q ≤ l.length) :
    ∃ a n cap, cv = .slice a n cap ∧ q ≤ cap ∧ RelV F μ (.ro ((l.drop p).take (q - p))) (.slice (if cap = p then a else a.map (·.add (p * sz))) (q - p) (cap - p)) := by
  cases h with
  | ro0 =>
    simp at hq; subst hq
    obtain rfl : p = 0 := by omega
    exact ⟨none, 0, 0, rfl, Nat.le_refl _, .ro0⟩
  | @ro _ _ b o cap sz' a f hz' hc hr hn hm ha =>
    refine ⟨some a, l.length, cap, rfl, by omega, ?_⟩
    have hlen : ((l.drop p).take (q - p)).length = q - p := by simp; omega
    have hcap : (if cap = p then some a else (some a).map (·.add (p * sz))) = some (if cap = p then a else a.add (p * sz)) := by split <;> rfl
    rw [hcap]
    have hget : ∀ (i : Nat) c, ((l.drop p).take (q - p))[i]? = some c → l[p + i]? = some c := by
      intro i c hi
      rw [List.getElem?_take] at hi
      split at hi
      · rwa [List.getElem?_drop] at hi
      · cases hi
    have hsz : ∀ (i : Nat) c, ((l.drop p).take (q - p))[i]? = some c → sz' = sz := fun i c hi => by rw [← hz' _ _ (hget i c hi)]; exact hz c (List.mem_of_getElem? (hget i c hi))
    have key := RelV.ro (F := F) (μ := μ) (l := (l.drop p).take (q - p)) (b := b) (o := o + p * sz') (cap := cap - p) (sz := sz') (a := if cap = p then a else a.add (p * sz)) (fun i j => f (p + i) j)
      (fun i c hi => hz' _ _ (hget i c hi))
      (fun i c j v hi hj => by
        have := hc _ c j v (hget i c hi) hj
        have e : o + p * sz' + i * sz' + j = o + (p + i) * sz' + j := by rw [Nat.add_mul]; omega
        rw [e]; exact this)
      (fun i c j v hi hj => hr _ c j v (hget i c hi) hj) (by rw [hlen]; omega) (by rw [hlen]; omega)
      (fun hne => by
        have hl : l ≠ [] := by rintro rfl; simp at hne
        rw [ha hl]
        obtain ⟨c, hc0⟩ : ∃ c, ((l.drop p).take (q - p))[0]? = some c := by
          cases hx : (l.drop p).take (q - p) with
          | nil => exact absurd hx hne
          | cons c r => exact ⟨c, rfl⟩
        have hs := hsz 0 c hc0
        have hpq : p < q := by
          have : 0 < ((l.drop p).take (q - p)).length := List.length_pos_iff.2 hne
          omega
        rw [if_neg (by omega), ← hs]
        simp [Addr.add])
    rw [hlen] at key
    exact key
theorem L_slice {Q : Exit → St → Prop} {ops : Array Oper} {rest : List Oper} {e : Env} {O : Objs} {K : Toks} {nx d : Nat} {ty : TypeId} {pos : String} {after : Array Edge} (hT : Tab.Ok P T) {t el sz : Nat} {x y z : Operand} {l : List (List AV)} {ky kz : IntKind} {p q : Int} (hx : strip (ev e x) = .ro l) (hy : strip (ev e y) = .int ky p) (hz : strip (ev e z) = .int kz q)
    (hk : (T.at t).kind = .slice el) (hsz : (T.at el).size = sz) (hpos : Nat.blt 0 sz = true) (hl : ∀ c ∈ l, c.length = sz) (h0 : 0 ≤ p) (h1 : p ≤ q) (h2 : q ≤ l.length) (hs : sg (ev e x) ∧ sg (ev e y) ∧ sg (ev e z)) (hd : Nat.blt d nt = true)
    (hn : WL P nt lo ops rest ⟨(d, .ro ((l.drop p.toNat).take (q.toNat - p.toNat))) :: e, O, K, nx⟩ Q) : WL P nt lo ops (⟨some d, .slice t x (some y) (some z) none, ty, pos, after, none⟩ :: rest) ⟨e, O, K, nx⟩ Q := by
  intro β a w ⟨hdm, μ, F, hE, hX⟩
  unfold wpL
  rw [wanted_none rfl, if_pos rfl]
  left
  have rx := (hE.ev x).strip hs.1
  have ry := (hE.ev y).strip hs.2.1
  have rz := (hE.ev z).strip hs.2.2
  dsimp only at rx ry rz
  rw [hx] at rx
  rw [hy] at ry
  rw [hz] at rz
  obtain ⟨ti, hti, h3, _⟩ := hT.info (Tab.ne_none hk (by simp))
  rw [h3] at hk
  have hu := kind_slice hk
  have hpz : 0 < sz := by simpa [Nat.blt_eq] using hpos
  obtain ⟨ei, hei, _, hes, _⟩ := hT.info (t := el) (Tab.ne_none' (by omega))
  obtain ⟨ad, n, cap, hcv, hqc, hrel⟩ := ro_slice rx hl (p := p.toNat) (q := q.toNat) (by omega) (by omega)
  generalize hcx : a.eval x = cx at rx hcv
  generalize hcy : a.eval y = cy at ry
  generalize hcz : a.eval z = cz at rz
  cases ry; cases rz
  subst hcv
  have hrun : (execOp a.eval ⟨some d, .slice t x (some y) (some z) none, ty, pos, after, none⟩).run P w = .ok (.value (.slice (if cap = p.toNat then ad else ad.map (·.add (p.toNat * sz))) (q.toNat - p.toNat) (cap - p.toNat))) w := by
    have e1 : 0 ≤ q ∧ q ≤ (cap : Int) := by omega
    have e2 : 0 ≤ p ∧ p ≤ ((q.toNat : Nat) : Int) := by omega
    simp [execOp, hcx, hcy, hcz, Instr.sliceAt, Instr.slice, run_und hu, Instr.sliceBounds, Instr.sliceBound, asIntOf, e1, e2, run_size hei, ← hes, hsz]
    all_goals (intro hh; exact absurd hh (by omega))
  unfold Oper.wp
  rw [hrun]
  exact hn β _ w (by have := Rel.put (s := ⟨e, O, K, nx⟩) (d := some d) hdm hE hrel hX; rwa [wr_some hd] at this)
end
end Go.AM
end
section
namespace Go.AM
open Go.RowKit
set_option linter.unusedVariables false
set_option linter.unusedSimpArgs false
section
variable {P : Program} {T : Tab} {nt lo : Nat} {ops : Array Oper} {O : Objs} {K : Toks} {nx : Nat} {Q : Exit → St → Prop} {e : Env} {rest : List Oper} {ty : TypeId} {pos : String} {after : Array Edge} {v : AV}
theorem L_store_row (hT : Tab.Ok P T) {α : Type} [Inhabited α] {f : α → List AV} {xs : List α} {v' : α} {t : Nat} {x y : Operand} {id i j : Nat} (hx : strip (ev e x) = .ptr id i j) {oty osz ofz : Nat} (hob : lk O id = some ⟨oty, osz, ofz, xs.map f⟩) (hv : strip (ev e y) = v) {cs : List AV} (hcs : v.cells = cs) (hp : v.plain = true) (hone : cs.all AV.one = true)
    (hes : (f (xs.getD i default)).take j ++ cs ++ (f (xs.getD i default)).drop (j + cs.length) = f v') (hk : (Nat.beq (T.at t).size cs.length && !(Nat.beq cs.length 0) && Nat.ble (j + cs.length) osz) = true) (hi : i < xs.length) (hf : Nat.ble ofz i = true) (hs : sg (ev e x) ∧ sg (ev e y))
    (hn : WL P nt lo ops rest ⟨e, (id, some ⟨oty, osz, ofz, (xs.set i v').map f⟩) :: O, K, nx⟩ Q) : WL P nt lo ops (⟨none, .store t x y, ty, pos, after, none⟩ :: rest) ⟨e, O, K, nx⟩ Q := by
  have hg : (xs.map f).getD i [] = f (xs.getD i default) := by simp [List.getD_eq_getElem?_getD, hi]
  refine L_store hT hx hob hv hcs hp hone (es' := (xs.set i v').map f) ?_ hk (by simpa [Nat.blt_eq] using hi) hf hs hn
  unfold setEl
  rw [hg, hes, List.map_set]
end
end Go.AM
end
section
namespace Go.AM
open Go.RowKit
set_option linter.unusedVariables false
set_option linter.unusedSimpArgs false
section
variable {P : Program} {T : Tab} {nt : Nat} {ro : Option Nat} {a : Act} {w : World}
/-- a function that is ranged over gives xs, one after the other, until it is stopped; what it makes is new memory, or lay there -/
def ItOk (P : Program) (f : FuncId) (caps : List AV) (xs : List (List AV)) : Prop := Callable P f ∧
  ∀ (Fa : Mem) (w : World) (cc : Array Value) (l : Nat) (J : Nat → World → Prop) (Jx : World → Prop), RelA Pm0 Fa caps cc →
    (∀ k W, J k W → ∀ a v, Fa a = some v → W.cell? a = some v) → (∀ W, Jx W → ∀ a v, Fa a = some v → W.cell? a = some v) →
    (∀ k x W1 W G cx, xs[k]? = some x → J k W1 → Below W1.heap.size W1 W → (∀ a v, Fa a = some v → G a = some v) → (∀ a v, G a = some v → a.block < W1.heap.size → Fa a = some v) → (∀ a v, G a = some v → W.cell? a = some v) → RelA Pm0 G x cx →
      YieldAt Fence.wide 0 P l cx W fun e W' => (e = .returned (.bool true) ∧ J (k + 1) W') ∨ (e = .returned (.bool false) ∧ Jx W')) →
    J 0 w →
    Calls P f (#[.func (.yield l) #[] #[]] ++ cc) w fun e W' => (∃ v, e = .returned v) ∧ ((∃ W1, J xs.length W1 ∧ Below W1.heap.size W1 W') ∨ ∃ W1, Jx W1 ∧ Below W1.heap.size W1 W')

theorem wp_mono2 {o : Oper} {K K' : Act → World → Prop} {Q Q' : Exit → Act → World → Prop} (h : ∀ a w, K a w → K' a w) (hq : ∀ e a w, e ≠ .normal → Q e a w → Q' e a w) (hh : o.wp P a w K Q) : o.wp P a w K' Q' := by
  unfold Oper.wp at *
  generalize (execOp a.eval o).run P w = r at *
  have lo : LetsOut Q → LetsOut Q' := fun ⟨a, w, h⟩ => ⟨a, w, hq _ _ _ (by simp) h⟩
  cases r with
  | ok n w' =>
    cases n <;> simp only [Oper.upon] at hh ⊢ <;>
      first
        | exact h _ _ hh
        | exact Calls.mono hh (fun e w'' he => by cases e <;> first | exact h _ _ he | exact lo he | exact hq _ _ _ (by simp) he)
        | exact Rows.mono hh (fun _ _ he => h _ _ he)
  | halt x w' => cases x <;> simp only [Oper.upon] at hh ⊢ <;> exact hq _ _ _ (by simp) hh
theorem wpIn_mono2 {F : Fence} {n : Nat} {o : Oper} {K K' : Act → World → Prop} {Q Q' : Exit → Act → World → Prop} (h : ∀ a w, K a w → K' a w) (hq : ∀ e a w, e ≠ .normal → Q e a w → Q' e a w) (hh : o.wpIn F n P a w K Q) : o.wpIn F n P a w K' Q' := by
  unfold Oper.wpIn at *
  refine ⟨hh.1, ?_⟩
  have hh := hh.2
  generalize (o.semAt F.round a.eval).run P w = r at *
  have lo : LetsOut Q → LetsOut Q' := fun ⟨a, w, h⟩ => ⟨a, w, hq _ _ _ (by simp) h⟩
  cases r with
  | ok x w' =>
    cases x <;> simp only [Oper.uponIn] at hh ⊢ <;>
      first
        | exact h _ _ hh
        | exact ⟨hh.1, CallsIn.mono hh.2 (fun e w'' he => by cases e <;> first | exact h _ _ he | exact lo he | exact hq _ _ _ (by simp) he)⟩
        | exact ⟨hh.1, RowsIn.mono hh.2 (fun _ _ he => h _ _ he)⟩
        | exact ⟨hh.1, RoundIn.mono hh.2 (fun e w'' he => by cases e <;> first | exact h _ _ he | exact lo he | exact hq _ _ _ (by simp) he)⟩
  | halt x w' => cases x <;> simp only [Oper.uponIn] at hh ⊢ <;> exact hq _ _ _ (by simp) hh
theorem wpL_split {ops : Array Oper} {Q Q' : Exit → Act → World → Prop} (l2 : List Oper) (hn : ∀ a w, Q' .normal a w → wpL ro P ops Q l2 a w) (hq : ∀ e a w, e ≠ .normal → Q' e a w → Q e a w) : ∀ (l1 : List Oper) a w, wpL ro P ops Q' l1 a w → wpL ro P ops Q (l1 ++ l2) a w
  | [], a, w, h => hn a w h
  | o :: l1, a, w, h => by
    have ih := wpL_split l2 hn hq l1
    rw [List.cons_append]
    unfold wpL at h ⊢
    split at h
    · rename_i hw
      rw [if_pos hw]
      exact h.imp (wp_mono2 ih hq) (wpIn_mono2 ih hq)
    · rename_i hw
      rw [if_neg hw]
      exact ih _ _ h
/-- who ranges, as the body is told of it: the memory that stays, the loop, what holds between two rounds, what is given -/
structure Ic where
  (Fa : Mem) (l : Nat) (J : Nat → World → Prop) (Jx : World → Prop) (xs : List (List AV)) (pins : List (Value × AV))
def Ic.I (c : Ic) : Option Nat → World → Prop
  | some k, W => c.J k W
  | none, W => c.Jx W
structure Ic.Ok (P : Program) (c : Ic) : Prop where
  fa : ∀ k W, c.I k W → ∀ a v, c.Fa a = some v → W.cell? a = some v
  pn : ∀ p ∈ c.pins, RelV c.Fa Pm0 p.2 p.1
  yl : ∀ k x W1 W G cx, c.xs[k]? = some x → c.J k W1 → Below W1.heap.size W1 W → (∀ a v, c.Fa a = some v → G a = some v) → (∀ a v, G a = some v → a.block < W1.heap.size → c.Fa a = some v) → (∀ a v, G a = some v → W.cell? a = some v) → RelA Pm0 G x cx →
      YieldAt Fence.wide 0 P c.l cx W fun e W' => (e = .returned (.bool true) ∧ c.J (k + 1) W') ∨ (e = .returned (.bool false) ∧ c.Jx W')
/-- where the body stands: behind a round that ended in the world W1 -/
def bI (Fa : Mem) (W1 : World) : Bs := ⟨W1.heap.size, W1, Fa, Pm0, Fa, none, W1, true⟩
def vQ (c : Ic) (nt : Nat) (Q : Exit → Option Nat → St → Prop) (e : Exit) (a : Act) (w : World) : Prop := ∃ k s W1, Q e k s ∧ c.I k W1 ∧ Rel (bI c.Fa W1) nt 100 s a w
/-- k rounds are over (none: it was stopped); from the state s the code comes to Q -/
def V (P : Program) (c : Ic) (nt : Nat) (x : Code) (k : Option Nat) (s : St) (Q : Exit → Option Nat → St → Prop) : Prop := ∀ W1 a w, c.I k W1 → Rel (bI c.Fa W1) nt 100 s a w → x.wpIn (Fw none) 0 P (vQ c nt Q) a w
def VL (P : Program) (c : Ic) (nt : Nat) (ops : Array Oper) (l : List Oper) (k : Option Nat) (s : St) (Q : Exit → Option Nat → St → Prop) : Prop := ∀ W1 a w, c.I k W1 → Rel (bI c.Fa W1) nt 100 s a w → wpL none P ops (vQ c nt Q) l a w
variable {ic : Ic} {k : Option Nat} {s : St} {Q : Exit → Option Nat → St → Prop}
theorem V_of_W {x : Code} (h : W P nt 100 x s (fun e s' => Q e k s')) : V P ic nt x k s Q := fun W1 a w hI hr =>
  wpIn_mono (h (bI ic.Fa W1) a w hr) fun e a' w' ⟨s', q, r⟩ => ⟨k, s', W1, q, hI, r⟩
def thenV (P : Program) (c : Ic) (nt : Nat) (y : Code) (Q : Exit → Option Nat → St → Prop) : Exit → Option Nat → St → Prop
  | .normal, k, s => V P c nt y k s Q
  | e, k, s => Q e k s
theorem V_seq {x y : Code} (h : V P ic nt x k s (thenV P ic nt y Q)) : V P ic nt (.seq x y) k s Q := fun W1 a w hI hr =>
  wpIn_seq (wpIn_mono (h W1 a w hI hr) fun e a' w' ⟨k', s', W2, q, i, r⟩ => by
    cases e with
    | normal => exact q W2 a' w' i r
    | _ => exact ⟨k', s', W2, q, i, r⟩)
def blockV (id : Nat) (Q : Exit → Option Nat → St → Prop) : Exit → Option Nat → St → Prop
  | .exit id', k, s => if id' = id then Q .normal k s else Q (.exit id') k s
  | e, k, s => Q e k s
theorem V_block {id : Nat} {x : Code} (h : V P ic nt x k s (blockV id Q)) : V P ic nt (.block id x) k s Q := fun W1 a w hI hr =>
  wpIn_block (wpIn_mono (h W1 a w hI hr) fun e a' w' ⟨k', s', W2, h1, i, r⟩ => by
    cases e with
    | exit id' =>
      simp only [Exit.inBlock, blockV] at h1 ⊢
      split
      · rename_i he; rw [if_pos he] at h1; exact ⟨k', s', W2, h1, i, r⟩
      · rename_i he; rw [if_neg he] at h1; exact ⟨k', s', W2, h1, i, r⟩
    | _ => exact ⟨k', s', W2, h1, i, r⟩)
theorem blockV_hit {id : Nat} (h : Q .normal k s) : blockV id Q (.exit id) k s := by show (if id = id then Q .normal k s else Q (.exit id) k s); rw [if_pos rfl]; exact h
theorem blockV_miss {id id' : Nat} (hn : Nat.beq id' id = false) (h : Q (.exit id') k s) : blockV id Q (.exit id') k s := by
  show (if id' = id then Q .normal k s else Q (.exit id') k s)
  rw [if_neg (by rintro rfl; simp at hn)]; exact h
theorem passV_then {x : Code} {id : Nat} (h : Q (.exit id) k s) : thenV P ic nt x Q (.exit id) k s := h
theorem V_skip (h : Q .normal k s) : V P ic nt .skip k s Q := fun W1 a w hI hr => wpIn_skip ⟨k, s, W1, h, hI, hr⟩
theorem V_exit {id : Nat} (h : Q (.exit id) k s) : V P ic nt (.exit id) k s Q := fun W1 a w hI hr => wpIn_exit ⟨k, s, W1, h, hI, hr⟩
theorem V_ret (h : Q .ret k s) : V P ic nt .ret k s Q := fun W1 a w hI hr => wpIn_ret ⟨k, s, W1, h, hI, hr⟩
theorem V_cond {c : Operand} {b : Bool} {x y : Code} (hc : ev s.e c = .bool b) (ht : b = true → V P ic nt x k s Q) (hf : b = false → V P ic nt y k s Q) : V P ic nt (.cond c x y) k s Q := fun W1 a w hI hr => by
  obtain ⟨μ, F, hv⟩ := hr.ev c
  rw [hc] at hv
  have hb : a.eval c = .bool b := by generalize a.eval c = cv at hv; cases hv; rfl
  exact wpIn_cond_split hb (fun h => ht h W1 a w hI hr) (fun h => hf h W1 a w hI hr)
theorem V_cond_t {c : Operand} {b : Bool} {x y : Code} (hc : ev s.e c = .bool b) (hb : b = true) (h : V P ic nt x k s Q) : V P ic nt (.cond c x y) k s Q := V_cond hc (fun _ => h) (fun h' => by rw [hb] at h'; cases h')
theorem V_cond_f {c : Operand} {b : Bool} {x y : Code} (hc : ev s.e c = .bool b) (hb : b = false) (h : V P ic nt y k s Q) : V P ic nt (.cond c x y) k s Q := V_cond hc (fun h' => by rw [hb] at h'; cases h') (fun _ => h)
theorem V.of_le {x : Code} {s' : St} (hl : s.le s' 100 nt) (h : V P ic nt x k s' Q) : V P ic nt x k s Q := fun W1 a w hI hr => h W1 a w hI (hl _ a w hr)
def roundV {ι : Type} (nt : Nat) (I : ι → Nat × St) (m : ι → Nat) (i : ι) (Q : Exit → Option Nat → St → Prop) : Exit → Option Nat → St → Prop
  | .normal, k, s => ∃ i', m i' < m i ∧ k = some (I i').1 ∧ s.le (I i').2 100 nt
  | e, k, s => Q e k s
theorem V_inv {x : Code} {ι : Type} (I : ι → Nat × St) (m : ι → Nat) (i0 : ι) (hk : k = some (I i0).1) (h0 : s.le (I i0).2 100 nt) (round : ∀ i, V P ic nt x (some (I i).1) (I i).2 (roundV nt I m i Q)) : V P ic nt (.loop x) k s Q := fun W1 a w hI hr => by
  subst hk
  have hr0 := h0 _ a w hr
  intro b kk cs hro hb hrm
  have key : ∀ n i, m i = n → ∀ W1 a w, ic.I (some (I i).1) W1 → Rel (bI ic.Fa W1) nt 100 (I i).2 a w → ∃ e a' w', vQ ic nt Q e a' w' ∧ ArrivesIn (Machine.fenced P (Fw none)) P (lone (b.atR a (.code x :: .inLoop x :: kk)) cs w) b kk cs e a' w' := by
    intro n
    induction n using Nat.strongRecOn with
    | _ n ih =>
      intro i hn W1 a w hI hi
      obtain ⟨e, a₁, w₁, ⟨k', s', W2, hq, hI1, hr1⟩, harr⟩ := round i W1 a w hI hi b (.inLoop x :: kk) cs hro hb hrm
      cases e with
      | normal =>
        obtain ⟨i', hlt, rfl, hle⟩ := hq
        obtain ⟨e₂, a₂, w₂, hq₂, harr₂⟩ := ih (m i') (hn ▸ hlt) i' rfl W2 a₁ w₁ hI1 (hle _ a₁ w₁ hr1)
        exact ⟨e₂, a₂, w₂, hq₂, .of_steps (StepsIn.trans harr (.one (fenced_calm hb hrm rfl) stepR_inLoop)) harr₂⟩
      | exit id => exact ⟨_, a₁, w₁, ⟨k', s', W2, hq, hI1, hr1⟩, .pass (x := .inLoop x) rfl (fun _ _ => .inl (by simp)) harr⟩
      | goto l => exact ⟨_, a₁, w₁, ⟨k', s', W2, hq, hI1, hr1⟩, .pass (x := .inLoop x) rfl (fun _ _ => .inl (by simp)) harr⟩
      | ret => exact ⟨_, a₁, w₁, ⟨k', s', W2, hq, hI1, hr1⟩, .pass (x := .inLoop x) rfl (fun _ _ => .inl (by simp)) harr⟩
      | panic ch => exact ⟨_, a₁, w₁, ⟨k', s', W2, hq, hI1, hr1⟩, .pass (x := .inLoop x) rfl (fun _ _ => .inl (by simp)) harr⟩
      | outgrown => exact ⟨_, a₁, w₁, ⟨k', s', W2, hq, hI1, hr1⟩, .pass (x := .inLoop x) rfl (fun _ _ => .inl (by simp)) harr⟩
  obtain ⟨e, a', w', hq, harr⟩ := key _ i0 rfl W1 a w hI hr0
  exact ⟨e, a', w', hq, .of_steps (.one (fenced_calm hb hrm rfl) stepR_loop) harr⟩
theorem passV_round {ι : Type} {I : ι → Nat × St} {m : ι → Nat} {i : ι} {id : Nat} (h : Q (.exit id) k s) : roundV nt I m i Q (.exit id) k s := h
theorem roundV_end {ι : Type} {I : ι → Nat × St} {m : ι → Nat} {i : ι} (i' : ι) (hm : m i' < m i) (hk : k = some (I i').1) (hl : s.le (I i').2 100 nt) : roundV nt I m i Q .normal k s := ⟨i', hm, hk, hl⟩
theorem V_region {id : Nat} {l : List Oper} (hnd : nodef l = true) (h : VL P ic nt l.toArray l k s Q) : V P ic nt (.region id l.toArray false) k s Q := fun W1 a w hI hr => wpIn_region_l hnd (h W1 a w hI hr)
theorem VL_nil {ops : Array Oper} (h : Q .normal k s) : VL P ic nt ops [] k s Q := fun W1 a w hI hr => ⟨k, s, W1, h, hI, hr⟩
def preV (P : Program) (c : Ic) (nt : Nat) (ops : Array Oper) (l : List Oper) (k : Option Nat) (Q : Exit → Option Nat → St → Prop) : Exit → St → Prop
  | .normal, s => VL P c nt ops l k s Q
  | e, s => Q e k s
/-- the quiet operations ahead -/
theorem VL_pre {ops : Array Oper} {l : List Oper} (l1 l2 : List Oper) (hl : l = l1 ++ l2) (h : WL P nt 100 ops l1 s (preV P ic nt ops l2 k Q)) : VL P ic nt ops l k s Q := fun W1 a w hI hr => by
  subst hl
  refine wpL_split (Q' := fun e a w => ∃ s', preV P ic nt ops l2 k Q e s' ∧ Rel (bI ic.Fa W1) nt 100 s' a w) l2 ?_ ?_ l1 a w (h (bI ic.Fa W1) a w hr)
  · rintro a w ⟨s', q, r⟩
    exact q W1 a w hI r
  · rintro e a w hne ⟨s', q, r⟩
    refine ⟨k, s', W1, ?_, hI, r⟩
    cases e <;> first | exact q | exact absurd rfl hne
/-- what of a state stays over a round: numbers, and what lay there -/
def keepV : AV → AV
  | .int k n => .int k n
  | .bool b => .bool b
  | .yl l => .yl l
  | .pin c v => .pin c v
  | _ => .und
def keepE (e : Env) : Env := e.map fun p => (p.1, keepV p.2)
theorem get_keepE : ∀ (e : Env) (t : Nat), get (keepE e) t = keepV (get e t)
  | [], t => rfl
  | (s, v) :: r, t => by
    show get ((s, keepV v) :: keepE r) t = _
    rw [get_cons, get_cons, get_keepE r t]
    split <;> rfl
def pinsIn (L : List (Value × AV)) : Env → Prop
  | [] => True
  | (_, .pin c v) :: r => (c, v) ∈ L ∧ pinsIn L r
  | _ :: r => pinsIn L r
theorem pinsIn_get {L : List (Value × AV)} : ∀ {e : Env}, pinsIn L e → ∀ {t c v}, get e t = .pin c v → (c, v) ∈ L
  | [], _, t, c, v, h => by cases h
  | (s, u) :: r, hp, t, c, v, h => by
    rw [get_cons] at h
    have hr : pinsIn L r := by cases u <;> first | exact hp | exact hp.2
    split at h
    · subst h; exact hp.1
    · exact pinsIn_get hr h
theorem wr_run {P : Program} {f : Operand} {args : Array Operand} {ats : Array TypeId} {ρ : Operand → Value} {l : Nat} {x : Next} (hf : ρ f = .func (.yield l) #[] #[]) {o : Oper} (ho : o.op = .call { callee := .value f, args, argTypes := ats }) (hy : (Instr.yield l (args.map ρ)).run P w = .ok x w) : (execOp ρ o).run P w = .ok x w := by
  obtain ⟨dst, op, ty, pos, after, gd⟩ := o
  dsimp only at ho; subst ho
  simp [execOp, resolve, hf, Deferred.ofValue, invoke, callFunc, hy]
end
end Go.AM
end
section
namespace Go.AM
open Go.RowKit
set_option linter.unusedVariables false
set_option linter.unusedSimpArgs false
section
variable {P : Program} {T : Tab} {nt : Nat} {ic : Ic} {k : Option Nat} {s : St} {Q : Exit → Option Nat → St → Prop}
/-- behind a round -/
theorem rel_round {e : Env} {O : Objs} {K : Toks} {nx d j : Nat} {W1 w w' : World} {a : Act} {b : Bool} {k' : Option Nat} (hok : ic.Ok P) (hp : pinsIn ic.pins e) (hd : Nat.blt d nt = true) (hr : Rel (bI ic.Fa W1) nt 100 ⟨e, O, K, nx⟩ a w) (hJ : ic.I k' w') :
    Rel (bI ic.Fa w') nt 100 ⟨(d, .bool b) :: keepE e, [], [], 100⟩ (a.put (some d) (.bool b)) w' := by
  obtain ⟨hdm, μ, F, hE, hX⟩ := hr
  have hdf : a.defers = [] := hdm.nr (.inl rfl)
  have hmem := hok.fa _ _ hJ
  have := Rel.put (s := ⟨keepE e, [], [], 100⟩) (β := bI ic.Fa w') (lo := 100) (μ := Pm0) (F := ic.Fa) (a := a) (w' := w') (O' := []) (K' := []) (nx' := 100) (nt := nt)
    ⟨.refl _, fun l h => (by cases h), fun _ => hdf, [], by rw [hdf]; rfl, List.nodup_nil, fun D h => (by cases h)⟩ (d := some d) (v := .bool b) (cv := .bool b) ⟨hE.size, fun t => ?_⟩ (.bool b)
    ⟨⟨⟨Below.refl _ _, Nat.le_refl _, fun _ _ => rfl, fun id o ho => by simp [lk] at ho, fun id id' o o' b cs sz b' cs' sz' _ ho => by simp [lk] at ho, hmem, fun id o b cs sz ho => by simp [lk] at ho⟩, ⟨fun id ty sz n hid => by simp [lt] at hid, fun id id' ty sz ty' sz' n n' b b' m m' cap cap' _ hid => by simp [lt] at hid⟩⟩, fun _ _ q => q, fun _ _ q _ => q, Pm.le.refl _, fun _ _ q => q, fun _ _ => rfl, Nat.le_refl _, fun _ => Nat.le_refl _⟩
  · simp only [wr_some hd] at this; exact this
  · show RelV ic.Fa Pm0 (get (keepE e) t) _
    rw [get_keepE]
    have ht := hE.rel t
    dsimp only at ht
    generalize hg : get e t = v at ht
    change RelV ic.Fa Pm0 (keepV v) (a.tmps.getD t undef)
    generalize a.tmps.getD t undef = cv at ht
    cases v with
    | int q n => cases ht with | int => exact .int _ _
    | bool q => cases ht with | bool => exact .bool _
    | yl l => cases ht with | yl => exact .yl _
    | pin c v =>
      cases ht with
      | pin h => exact .pin (hok.pn _ (pinsIn_get hp hg))
    | _ => exact .und _
theorem VL_yield {ops : Array Oper} {rest : List Oper} {e : Env} {O : Objs} {K : Toks} {nx d j : Nat} {ty : TypeId} {pos : String} {after : Array Edge} {f : Operand} {args : Array Operand} {ats : Array TypeId} {x : List AV} (hok : ic.Ok P) (hf : strip (ev e f) = .yl ic.l) (hsf : sg (ev e f))
    (hx : args.toList.map (fun y => demA (strip (ev e y))) = x) (hg : x.all grA = true) (hsg : sgs (args.toList.map (ev e))) (hk : ic.xs[j]? = some x) (hp : pinsIn ic.pins e) (hd : Nat.blt d nt = true)
    (ht : VL P ic nt ops rest (some (j + 1)) ⟨(d, .bool true) :: keepE e, [], [], 100⟩ Q) (hs : VL P ic nt ops rest none ⟨(d, .bool false) :: keepE e, [], [], 100⟩ Q) :
    VL P ic nt ops (⟨some d, .call { callee := .value f, args := args, argTypes := ats }, ty, pos, after, none⟩ :: rest) (some j) ⟨e, O, K, nx⟩ Q := by
  intro W1 a w hI hr
  have hr0 := hr
  obtain ⟨hdm, μ, F, hE, hX⟩ := hr
  unfold wpL
  rw [wanted_none rfl, if_pos rfl]
  right
  have hfv : a.eval f = .func (.yield ic.l) #[] #[] := by
    have := (hE.ev f).strip hsf
    rw [hf] at this
    generalize a.eval f = cv at this
    cases this; rfl
  have hA : RelA Pm0 F x (args.map a.eval) := by
    subst hx
    refine ⟨by simp, fun i v hv => ?_⟩
    rw [List.getElem?_map] at hv
    cases hq : args.toList[i]? with
    | none => simp [hq] at hv
    | some y =>
      simp [hq] at hv; subst hv
      have hy := (hE.ev y).strip (sgs_mem hsg _ (List.mem_map.2 ⟨y, List.mem_of_getElem? hq, rfl⟩))
      have hg' := List.all_eq_true.1 hg (demA (strip (ev e y))) (List.mem_map.2 ⟨y, List.mem_of_getElem? hq, rfl⟩)
      have : (args.map a.eval).getD i undef = a.eval y := by
        rw [Array.getD_eq_getD_getElem?, Array.getElem?_map]
        rw [Array.getElem?_toList] at hq
        rw [hq]; rfl
      rw [this]
      exact demA_rel hy hg'
  obtain ⟨fn, tmps, assign, body, hy, hR⟩ := hok.yl j x W1 w F (args.map a.eval) hk hI hX.s.o.below hX.f0 hX.fb hX.s.o.mem hA
  refine ⟨fun _ _ => trivial, ?_⟩
  show Oper.uponIn (Fw none) 0 P _ a _ _ ((Oper.semAt none a.eval _).run P w)
  rw [Oper.semAt_eq _ _ _ (by intro c hc; cases hc), wr_run hfv rfl hy]
  refine And.intro (fun h => by cases h) (RoundIn.mono hR ?_)
  intro en w' hor
  rcases hor with ⟨rfl, hJ⟩ | ⟨rfl, hJ⟩
  · exact ht w' _ w' hJ (rel_round (k' := some (j + 1)) (j := j) hok hp hd hr0 hJ)
  · exact hs w' _ w' hJ (rel_round (k' := none) (j := j) hok hp hd hr0 hJ)
def pinEnv (cc : Nat → Value) : Nat → Nat → List AV → Env
  | _, _, [] => []
  | k, i, v :: r => (k, .pin (cc i) v) :: pinEnv cc (k + 1) (i + 1) r
def pinsOf (cc : Nat → Value) : Nat → List AV → List (Value × AV)
  | _, [] => []
  | i, v :: r => (cc i, v) :: pinsOf cc (i + 1) r
theorem pinsOf_mem {cc : Nat → Value} : ∀ {l : List AV} {i : Nat} {p : Value × AV}, p ∈ pinsOf cc i l → ∃ j, l[j]? = some p.2 ∧ p.1 = cc (i + j)
  | [], i, p, h => by cases h
  | v :: r, i, p, h => by
    rcases List.mem_cons.1 h with rfl | h
    · exact ⟨0, rfl, rfl⟩
    · obtain ⟨j, h1, h2⟩ := pinsOf_mem h
      exact ⟨j + 1, h1, by rw [h2]; congr 1; omega⟩
theorem get_pinEnv {cc : Nat → Value} : ∀ (l : List AV) (k i t : Nat), get (pinEnv cc k i l) t = if k ≤ t then (match l[t - k]? with | some v => .pin (cc (i + (t - k))) v | none => .und) else .und
  | [], k, i, t => by simp [pinEnv, get]
  | v :: r, k, i, t => by
    rw [pinEnv, get_cons, get_pinEnv r (k + 1) (i + 1) t]
    by_cases h : k = t
    · subst h; simp
    · rw [if_neg h]
      by_cases h2 : k + 1 ≤ t
      · rw [if_pos h2, if_pos (by omega)]
        have e1 : t - k = (t - (k + 1)) + 1 := by omega
        rw [e1, List.getElem?_cons_succ]
        have e2 : i + 1 + (t - (k + 1)) = i + (t - (k + 1) + 1) := by omega
        rw [e2]
      · rw [if_neg h2, if_neg (by omega)]
def endV (xs : List (List AV)) (e : Exit) (k : Option Nat) (s : St) : Prop := (e = .normal ∨ e = .ret) ∧ (k = none ∨ k = some xs.length)
theorem it_ok {f : FuncId} {fn : Func} (hf : P.funcs[f]? = some fn) {c : Code} (hb : fn.body = some c) {caps : List AV} {xs : List (List AV)} {n : Nat} (hn : fn.ntmps = n) (hres : fn.results.toList = []) (hnm : (fn.name == "runtime.NumGoroutine") = false) (hal : Nat.ble (caps.length + 1) n = true)
    (h : ∀ (ic : Ic) (cc : Nat → Value), ic.Ok P → ic.xs = xs → ic.pins = pinsOf cc 0 caps → V P ic n c (some 0) ⟨(0, .yl ic.l) :: pinEnv cc 1 0 caps, [], [], 100⟩ (endV xs)) : ItOk P f caps xs := by
  subst hn
  refine ⟨⟨fn, hf, by rw [hb]; rfl, hnm⟩, ?_⟩
  intro Fa w cc l J Jx hA hJ hJx hY h0
  obtain ⟨ic, hic⟩ : ∃ ic : Ic, ic = ⟨Fa, l, J, Jx, xs, pinsOf (fun i => cc.getD i undef) 0 caps⟩ := ⟨_, rfl⟩
  have hok : ic.Ok P := by
    subst hic
    refine ⟨fun k W hk => ?_, fun p hp => ?_, hY⟩
    · cases k with
      | some k => exact hJ k W hk
      | none => exact hJx W hk
    · obtain ⟨j, h1, h2⟩ := pinsOf_mem hp
      rw [h2, Nat.zero_add]
      exact hA.2 j _ h1
  have hal' := Nat.le_of_ble_eq_true hal
  have hsz : (#[Value.func (.yield l) #[] #[]] ++ cc).size = caps.length + 1 := by simp [hA.1]; omega
  have hRel : Rel (bI Fa w) fn.ntmps 100 ⟨(0, .yl l) :: pinEnv (fun i => cc.getD i undef) 1 0 caps, [], [], 100⟩ { tmps := (#[Value.func (.yield l) #[] #[]] ++ cc) ++ Array.replicate (fn.ntmps - (#[Value.func (.yield l) #[] #[]] ++ cc).size) undef, defers := [] } w := by
    refine ⟨⟨.refl _, fun l h => (by cases h), fun _ => rfl, [], rfl, List.nodup_nil, fun D h => (by cases h)⟩, Pm0, Fa, ⟨?_, fun t => ?_⟩, ⟨⟨⟨Below.refl _ _, Nat.le_refl _, fun _ _ => rfl, fun id o ho => by simp [lk] at ho, fun id id' o o' b cs sz b' cs' sz' _ ho => by simp [lk] at ho, hJ 0 w h0, fun id o b cs sz ho => by simp [lk] at ho⟩, ⟨fun id ty sz n hid => by simp [lt] at hid, fun id id' ty sz ty' sz' n n' b b' m m' cap cap' _ hid => by simp [lt] at hid⟩⟩, fun _ _ q => q, fun _ _ q _ => q, Pm.le.refl _, fun _ _ q => q, fun _ _ => rfl, Nat.le_refl _, fun _ => Nat.le_refl _⟩⟩
    · rw [Array.size_append, hsz, Array.size_replicate]; omega
    · show RelV Fa Pm0 (get ((0, .yl l) :: pinEnv (fun i => cc.getD i undef) 1 0 caps) t) _
      rw [get_cons]
      split
      · rename_i he; subst he
        rw [Array.getD_eq_getD_getElem?, Array.getElem?_append_left (by rw [hsz]; omega)]
        rw [Array.getElem?_append_left (by simp)]
        exact .yl l
      · rename_i he
        rw [get_pinEnv, if_pos (by omega)]
        cases hq : caps[t - 1]? with
        | none => exact .und _
        | some v =>
          have hlt : t - 1 < caps.length := (List.getElem?_eq_some_iff.1 hq).1
          have := hA.2 (t - 1) v hq
          have e : (#[Value.func (.yield l) #[] #[]] ++ cc ++ Array.replicate (fn.ntmps - (#[Value.func (.yield l) #[] #[]] ++ cc).size) undef).getD t undef = cc.getD (t - 1) undef := by
            rw [Array.getD_eq_getD_getElem?, Array.getElem?_append_left (by rw [hsz]; omega), Array.getElem?_append_right (by simp; omega), Array.getD_eq_getD_getElem?]
            rfl
          rw [e]
          dsimp only
          rw [Nat.zero_add]
          exact .pin this
  have hV := h ic (fun i => cc.getD i undef) hok (by rw [hic]) (by rw [hic])
  subst hic
  refine callsIn_wide.1 (callsIn_of_wp_marks (F := Fence.wide) (n := 0) hf hb trivial (wpIn_mono (hV w _ w h0 hRel) ?_))
  rintro e a' w' ⟨k', s', W1, ⟨he, hk⟩, hI, hdm, μ, F, hE, hX⟩
  have hdf : a'.defers = [] := hdm.nr (.inl rfl)
  have fin : LeavesInM Fence.wide 0 P fn a'.tmps (fun e w' => (∃ v, e = .returned v) ∧ ((∃ W1, J xs.length W1 ∧ Below W1.heap.size W1 w') ∨ ∃ W1, Jx W1 ∧ Below W1.heap.size W1 w')) a'.defers .returning w' := by
    rw [hdf]
    have hr : ∃ v, (results fn a'.tmps).run P w' = .ok v w' := by
      unfold results
      have : fn.results = #[] := by cases hq : fn.results; rw [hq] at hres; simp at hres; rw [hres]
      rw [this]
      exact ⟨.tuple #[], by simp⟩
    obtain ⟨v, hv⟩ := hr
    refine ⟨v, hv, ⟨v, rfl⟩, ?_⟩
    rcases hk with rfl | rfl
    · exact .inr ⟨W1, hI, hX.s.o.below⟩
    · exact .inl ⟨W1, hI, hX.s.o.below⟩
  rcases he with rfl | rfl <;> exact fin
end
end Go.AM
end
section
namespace Go.AM
open Go.RowKit
set_option linter.unusedVariables false
set_option linter.unusedSimpArgs false
section
variable {P : Program} {T : Tab} {nt lo : Nat} {Q : Exit → St → Prop}
/-- a round's values in their slots -/
def setE (nt : Nat) : List Nat → List AV → Env → Env
  | p :: ps, v :: vs, e => setE nt ps vs (wr nt e (some p) v)
  | _, _, e => e
theorem RelE.sets {μ : Pm} {F : Mem} : ∀ (ps : List Nat) (vs : List AV) (cs : List Value) (e : Env) (A : Array Value), RelE μ F nt e A → cs.length = vs.length → (∀ (j : Nat) v, vs[j]? = some v → RelV F μ v (cs.getD j undef)) →
    RelE μ F nt (setE nt ps vs e) ((ps.zip cs).foldl (fun t (p : Nat × Value) => t.setIfInBounds p.1 p.2) A)
  | [], vs, cs, e, A, h, _, _ => by cases vs <;> exact h
  | p :: ps, [], cs, e, A, h, hl, _ => by
    have : cs = [] := List.eq_nil_of_length_eq_zero hl
    subst this; exact h
  | p :: ps, v :: vs, [], e, A, h, hl, _ => by simp at hl
  | p :: ps, v :: vs, c :: cs, e, A, h, hl, hv => by
    have h1 : RelE μ F nt (wr nt e (some p) v) (A.setIfInBounds p c) := RelE.put (a := ⟨A, []⟩) h (d := some p) (hv 0 v rfl)
    exact RelE.sets ps vs cs _ _ h1 (by simpa using hl) (fun j u hj => hv (j + 1) u hj)
def asgQ (P : Program) (nt lo : Nat) (body : Code) (R : Exit → St → Prop) : Exit → St → Prop
  | .normal, s => W P nt lo body s R
  | _, _ => False
/-- how a round is left: on to the next (what stands then), or by a way out of the range -/
def rngQ (nt lo : Nat) (I : Objs × Toks × Nat) (e : Env) (Q : Exit → St → Prop) : Exit → St → Prop
  | .normal, s => s.le ⟨[], I.1, I.2.1, I.2.2⟩ lo nt
  | .exit id, s => Q (.exit id) ⟨e, s.O, s.K, s.nx⟩
  | .ret, s => Q .ret ⟨e, s.O, s.K, s.nx⟩
  | _, _ => False
theorem RelX.be {β β' : Bs} {μ : Pm} {F : Mem} {O : Objs} {K : Toks} {nx : Nat} {w : World} (h : RelX β lo μ F O K nx w) (h1 : β'.n0 = β.n0) (h2 : β'.w0 = β.w0) (h3 : β'.Fa = β.Fa) (h4 : β'.μ0 = β.μ0) (h5 : β'.F0 = β.F0) (h6 : β'.dz = true → β.dz = true) : RelX β' lo μ F O K nx w :=
  ⟨by rw [h1, h2]; exact h.s, by rw [h3]; exact h.fa, by rw [h3, h1]; exact h.fb, by rw [h4]; exact h.m0, by rw [h5]; exact h.f0, by rw [h4]; exact h.lo0, h.lo1, fun q => h.dzl (h6 q)⟩
theorem RelX.put {β : Bs} {μ : Pm} {F : Mem} {O : Objs} {K : Toks} {nx l : Nat} {w : World} {o o' : Obj} (h : RelX β lo μ F O K nx w) (hl : β.n0 ≤ l) (ho : w.heap[l]? = some o) (hc : o.isCells = false) : RelX β lo μ F O K nx (w.putObj l o') :=
  h.oth (fun k q hk hq => (World.putObj_heap_other (by rintro rfl; rw [ho] at hk; cases hk; rw [hc] at hq; cases hq)).trans hk) ((Below.refl _ w).grown (grownBy_putObj' w l _) h.s.o.base (fun k e => by cases e; exact hl))
theorem keepsOthers_put {u w : World} {l : Nat} (h : KeepsOthers u w) (hl : u.heap.size ≤ l) (o : Obj) : KeepsOthers u (w.putObj l o) :=
  ⟨Nat.le_trans h.size (grownBy_putObj' w l _).size, fun k q hk hq => (World.putObj_heap_other (by rintro rfl; have := (Array.getElem?_eq_some_iff.1 hk).1; omega)).trans (h.same k q hk hq)⟩
/-- the objects, as they stand -/
def XO (β : Bs) (lo : Nat) (I : Objs × Toks × Nat) (w : World) : Prop := ∃ μ F, RelX β lo μ F I.1 I.2.1 I.2.2 w
def jumpsTo (c : Code) (e : Exit) : Prop := (e = .ret ∧ c = .ret) ∨ ∃ id, e = .exit id ∧ c = .exit id
abbrev lpRec (fn : FuncId) (tmps : Array Value) (ps : Array Tmp) (assign body : Code) (D : Nat) (st : LoopState) (pe : Option Code) : Obj := .loop { state := st, pending := pe, fn, tmps, params := ps, assign, body, defers := D }
theorem range_calls {β : Bs} {ps : Array Tmp} {assign body : Code} {e : Env} {nx : Nat} {gf : FuncId} {bs : List AV} {xs : List (List AV)} {a : Act} {u : World} {μ : Pm} {F : Mem} {C : Array Value} {fn : FuncId} {D : Nat}
    (hit : ItOk P gf bs xs) (hps : ∀ x ∈ xs, x.length = ps.size) (I : Nat → Objs × Toks × Nat) (hC : RelA Pm0 F bs C) (hE : RelE μ F nt e a.tmps)
    (round : ∀ k x, xs[k]? = some x → W P nt nx assign ⟨setE nt ps.toList x e, (I k).1, (I k).2.1, (I k).2.2⟩ (asgQ P nt nx body (rngQ nt nx (I (k + 1)) e Q)))
    (hX : XO { β with μ0 := μ, F0 := F } nx (I 0) u) (hdz : β.dz = false) :
    Calls P gf (#[.func (.yield u.heap.size) #[] #[]] ++ C) (u.alloc (lpRec fn a.tmps ps assign body D .ready none)) fun en w3 => (∃ v, en = .returned v) ∧ KeepsOthers u w3 ∧
      ((w3.heap[u.heap.size]? = some (lpRec fn a.tmps ps assign body D .ready none) ∧ XO { β with μ0 := μ, F0 := F } nx (I xs.length) w3) ∨
        ∃ (c : Code) (e' : Exit) (s' : Objs × Toks × Nat), w3.heap[u.heap.size]? = some (lpRec fn a.tmps ps assign body D .done (some c)) ∧ jumpsTo c e' ∧ Q e' ⟨e, s'.1, s'.2.1, s'.2.2⟩ ∧ XO { β with μ0 := μ, F0 := F } nx s' w3) := by
  obtain ⟨β', hβ⟩ : ∃ β' : Bs, β' = { β with μ0 := μ, F0 := F } := ⟨_, rfl⟩
  rw [← hβ] at hX ⊢
  have hn0 : β'.n0 ≤ u.heap.size := by obtain ⟨_, _, h⟩ := hX; exact h.s.o.base
  have hF0 : β'.F0 = F := by rw [hβ]
  have hμ0 : β'.μ0 = μ := by rw [hβ]
  have hdz' : β'.dz = false := by rw [hβ]; exact hdz
  -- what may turn beside it
  have keepX : ∀ {I : Objs × Toks × Nat} {W W' : World}, XO β' nx I W → Below W.heap.size W W' → XO β' nx I W' := by
    rintro I W W' ⟨μ1, F1, h⟩ hb
    exact ⟨μ1, F1, h.call hb (fun _ _ q => q) (fun _ _ q _ => q) (fun a v q => (h.s.keep hb).o.mem a v q)⟩
  have putX : ∀ {I : Objs × Toks × Nat} {W : World} {o o' : Obj}, XO β' nx I W → W.heap[u.heap.size]? = some o → o.isCells = false → XO β' nx I (W.putObj u.heap.size o') := by
    rintro I W o o' ⟨μ1, F1, h⟩ ho hc
    exact ⟨μ1, F1, h.put hn0 ho hc⟩
  have grow : ∀ {W W' : World}, KeepsOthers u W → Below W.heap.size W W' → KeepsOthers u W' := fun h hb => h.trans (keepsOthers_below hb)
  have atL : ∀ {W W' : World} {o : Obj}, W.heap[u.heap.size]? = some o → Below W.heap.size W W' → W'.heap[u.heap.size]? = some o := fun h hb => (hb.block _ (Array.getElem?_eq_some_iff.1 h).1).trans h
  have valid : ∀ {I : Objs × Toks × Nat} {W : World}, XO β' nx I W → ∀ a v, F a = some v → W.cell? a = some v := by
    rintro I W ⟨μ1, F1, h⟩ ad v hv
    exact h.s.o.mem _ _ (h.f0 _ _ (by rw [hF0]; exact hv))
  refine Calls.mono (hit.2 F (u.alloc (lpRec fn a.tmps ps assign body D .ready none)) C u.heap.size
    (fun k W => XO β' nx (I k) W ∧ KeepsOthers u W ∧ W.heap[u.heap.size]? = some (lpRec fn a.tmps ps assign body D .ready none))
    (fun W => ∃ (c : Code) (e' : Exit) (s' : Objs × Toks × Nat), W.heap[u.heap.size]? = some (lpRec fn a.tmps ps assign body D .done (some c)) ∧ jumpsTo c e' ∧ Q e' ⟨e, s'.1, s'.2.1, s'.2.2⟩ ∧ XO β' nx s' W ∧ KeepsOthers u W)
    hC (fun k W h => valid h.1) (fun W h => by obtain ⟨_, _, _, _, _, _, h, _⟩ := h; exact valid h) ?_
    ⟨keepX hX (below_alloc u _), keepsOthers_below (below_alloc u _), World.alloc_heap_new u _⟩) ?_
  · -- a round
    rintro k x W1 W G cx hx ⟨⟨μ1, F1, hX1⟩, hko, hl⟩ hb hG1 hG2 hG3 hcx
    have hval := (hX1.s.keep hb).o.mem
    have hX2 : RelX β' nx μ1 (fun a => (F1 a).or (G a)) (I k).1 (I k).2.1 (I k).2.2 W := by
      refine hX1.call hb (fun a v q => by simp [q]) (fun a v q hlt => ?_) (fun a v q => ?_)
      · cases hq : F1 a with
        | some v' => rw [hq] at q; simpa using q
        | none =>
          rw [hq] at q
          have := hX1.f0 a v (by rw [hF0]; exact hG2 a v (by simpa using q) hlt)
          rw [hq] at this; exact this
      · cases hq : F1 a with
        | some v' => rw [hq] at q; exact hval a v (by rw [hq]; simpa using q)
        | none => rw [hq] at q; exact hG3 a v (by simpa using q)
    have hGF : ∀ a v, G a = some v → (F1 a).or (G a) = some v := by
      intro a v q
      cases hq : F1 a with
      | some v' =>
        have h1 := hval a v' hq
        rw [hG3 a v q] at h1
        simpa using h1.symm
      | none => simp [q]
    have hl1 := atL hl hb
    have hko1 := grow hko hb
    have hcs : cx.size = ps.size := by rw [hcx.1]; exact hps x (List.mem_of_getElem? hx)
    refine ⟨fn, _, assign, body, run_yield hl1 hcs, roundIn_of_wpIn trivial ?_⟩
    have hE1 : RelE μ1 (fun a => (F1 a).or (G a)) nt (setE nt ps.toList x e) ((ps.zip cx).foldl (fun t (p : Nat × Value) => t.setIfInBounds p.1 p.2) a.tmps) := by
      have h1 : RelE μ1 (fun a => (F1 a).or (G a)) nt e a.tmps := hE.mono (by rw [← hμ0]; exact hX1.m0) (fun a v q => by simp [hX1.f0 a v (by rw [hF0]; exact q)])
      have := RelE.sets ps.toList x cx.toList e a.tmps h1 (by simpa using hcx.1) (fun j v hj => by
        have := (hcx.2 j v hj).mono (Pm.le0 μ1) hGF
        rwa [Array.getD_eq_getD_getElem?, ← Array.getElem?_toList, ← List.getD_eq_getElem?_getD] at this)
      rwa [← Array.toList_zip, Array.foldl_toList] at this
    have hR1 : Rel { β' with lp := some u.heap.size, wo := W } nt nx ⟨setE nt ps.toList x e, (I k).1, (I k).2.1, (I k).2.2⟩ { tmps := (ps.zip cx).foldl (fun t (p : Nat × Value) => t.setIfInBounds p.1 p.2) a.tmps, defers := [] } W :=
      ⟨⟨.refl _, fun l h => (by cases h; exact ⟨_, hl1⟩), fun _ => rfl, [], rfl, List.nodup_nil, fun D h => (by cases h)⟩, μ1, _, hE1, hX2.be rfl rfl rfl rfl rfl (fun h => h)⟩
    refine wpIn_mono (round k x hx _ _ W hR1) ?_
    rintro e1 a1 Wa ⟨s1, q1, hd1, μ2, F2, hE2, hX3⟩
    cases e1 with
    | normal =>
      have hla := hd1.ko.same _ _ hl1 rfl
      have hkoa : KeepsOthers u Wa := hko1.trans hd1.ko
      refine ⟨_, run_beginRound hla rfl, ?_⟩
      have hX4 := (hX3.put (o' := lpRec fn a.tmps ps assign body D .busy none) hn0 hla rfl)
      have hl2 : (Wa.putObj u.heap.size (lpRec fn a.tmps ps assign body D .busy none)).heap[u.heap.size]? = some (lpRec fn a.tmps ps assign body D .busy none) := World.putObj_heap_same (Array.getElem?_eq_some_iff.1 hla).1
      have hdf : a1.defers = [] := hd1.nr (.inr rfl)
      have hkob : KeepsOthers u (Wa.putObj u.heap.size (lpRec fn a.tmps ps assign body D .busy none)) := keepsOthers_put hkoa (Nat.le_refl _) _
      have hR2 : Rel { β' with lp := some u.heap.size, wo := Wa.putObj u.heap.size (lpRec fn a.tmps ps assign body D .busy none) } nt nx s1 a1 (Wa.putObj u.heap.size (lpRec fn a.tmps ps assign body D .busy none)) :=
        ⟨⟨.refl _, fun l h => (by cases h; exact ⟨_, hl2⟩), fun _ => hdf, [], by rw [hdf]; rfl, List.nodup_nil, fun D h => (by cases h)⟩, μ2, F2, hE2, hX4.be rfl rfl rfl rfl rfl (fun h => h)⟩
      refine wpIn_mono (q1 _ _ _ hR2) ?_
      rintro e2 a2 Wc ⟨s2, q2, hr3⟩
      have hd3 := hr3.1
      have hlc := hd3.ko.same _ _ hl2 rfl
      have hkoc : KeepsOthers u Wc := hkob.trans hd3.ko
      have xo : ∀ {I : Objs × Toks × Nat} {s3 : St}, Rel { β' with lp := some u.heap.size, wo := Wa.putObj u.heap.size (lpRec fn a.tmps ps assign body D .busy none) } nt nx s3 a2 Wc → I = (s3.O, s3.K, s3.nx) → XO β' nx I Wc := by
        rintro I s3 ⟨_, μ3, F3, _, h⟩ rfl
        exact ⟨μ3, F3, h.be rfl rfl rfl rfl rfl (fun h => h)⟩
      have out : ∀ (c : Code) (e' : Exit), jumpsTo c e' → Q e' ⟨e, s2.O, s2.K, s2.nx⟩ → ∃ v w', (Instr.endRound u.heap.size (some c)).run P Wc = .ok v w' ∧ ((Ending.returned v = .returned (.bool true) ∧ XO β' nx (I (k + 1)) w' ∧ KeepsOthers u w' ∧ w'.heap[u.heap.size]? = some (lpRec fn a.tmps ps assign body D .ready none)) ∨
          (Ending.returned v = .returned (.bool false) ∧ ∃ (c : Code) (e' : Exit) (s' : Objs × Toks × Nat), w'.heap[u.heap.size]? = some (lpRec fn a.tmps ps assign body D .done (some c)) ∧ jumpsTo c e' ∧ Q e' ⟨e, s'.1, s'.2.1, s'.2.2⟩ ∧ XO β' nx s' w' ∧ KeepsOthers u w')) := fun c e' hj hq =>
        ⟨_, _, run_endRound (some c) hlc, .inr ⟨rfl, c, e', (s2.O, s2.K, s2.nx), World.putObj_heap_same (Array.getElem?_eq_some_iff.1 hlc).1, hj, hq, putX (xo hr3 rfl) hlc rfl, keepsOthers_put hkoc (Nat.le_refl _) _⟩⟩
      cases e2 with
      | normal => exact ⟨_, _, run_endRound none hlc, .inl ⟨rfl, putX (xo (q2 _ _ _ hr3) rfl) hlc rfl, keepsOthers_put hkoc (Nat.le_refl _) _, World.putObj_heap_same (Array.getElem?_eq_some_iff.1 hlc).1⟩⟩
      | ret => exact out .ret .ret (.inl ⟨rfl, rfl⟩) q2
      | exit id => exact out (.exit id) (.exit id) (.inr ⟨id, rfl, rfl⟩) q2
      | goto t => exact q2.elim
      | panic ch => exact q2.elim
      | outgrown => exact q2.elim
    | _ => exact q1.elim
  · rintro en w3 ⟨hv, (⟨W1, ⟨h1, h2, h3⟩, hb⟩ | ⟨W1, ⟨c, e', s', h1, h2, h3, h4, h5⟩, hb⟩)⟩
    · exact ⟨hv, grow h2 hb, .inl ⟨atL h3 hb, keepX h1 hb⟩⟩
    · exact ⟨hv, grow h5 hb, .inr ⟨c, e', s', atL h1 hb, h2, h3, keepX h4 hb⟩⟩
theorem Fw_nd {ro : Option Nat} {p : Prop} (h : (Fw ro).depth.isSome = true) : p := by cases h
theorem W_range {g : Operand} {ps : Array Tmp} {assign body : Code} {e : Env} {O : Objs} {K : Toks} {nx : Nat} {gf : FuncId} {caps bs : List AV} {xs : List (List AV)} (hg : strip (ev e g) = .fn gf [] caps) (hsg : sg (ev e g)) (hcap : caps.map demC = bs) (hgr : bs.all grC = true) (hit : ItOk P gf bs xs) (hlo : Nat.blt lo 100 = true)
    (hps : ∀ x ∈ xs, x.length = ps.size) (I : Nat → Objs × Toks × Nat) (h0 : St.le ⟨e, O, K, nx⟩ ⟨[], (I 0).1, (I 0).2.1, (I 0).2.2⟩ nx nt)
    (round : ∀ k x, xs[k]? = some x → W P nt nx assign ⟨setE nt ps.toList x e, (I k).1, (I k).2.1, (I k).2.2⟩ (asgQ P nt nx body (rngQ nt nx (I (k + 1)) e Q)))
    (done : Q .normal ⟨e, (I xs.length).1, (I xs.length).2.1, (I xs.length).2.2⟩) : W P nt lo (.rangeFunc g ps assign body) ⟨e, O, K, nx⟩ Q := by
  intro β a w ⟨hd, μ, F, hE, hX⟩
  have hdz : β.dz = false := by
    cases hq : β.dz with
    | false => rfl
    | true => have := hX.dzl hq; rw [Nat.blt_eq] at hlo; omega
  have hgv := (hE.ev g).strip hsg
  rw [hg] at hgv
  obtain ⟨C, hgc, hC⟩ : ∃ C, a.eval g = .func (.func gf) #[] C ∧ RelA Pm0 F bs C := by
    generalize a.eval g = cv at hgv
    cases hgv with
    | @fn _ _ _ _ A C hA hC ha hc =>
      refine ⟨C, by rw [show A = #[] from Array.eq_empty_of_size_eq_zero hA], ?_⟩
      subst hcap
      refine ⟨by simp [hC], fun j v hj => ?_⟩
      rw [List.getElem?_map] at hj
      cases hq : caps[j]? with
      | none => simp [hq] at hj
      | some y =>
        simp [hq] at hj; subst hj
        exact demC_rel (hc j y hq) (List.all_eq_true.1 hgr _ (List.mem_map.2 ⟨y, List.mem_of_getElem? hq, rfl⟩))
  have eg : ∀ args w, (callFunc gf args).run P w = .ok (.enter gf args) w := by
    obtain ⟨gn, hgn, hbody, hname⟩ := hit.1
    have hbn : gn.body ≠ none := by intro hq; simp [hq] at hbody
    have hnn : gn.name ≠ "runtime.NumGoroutine" := by intro hq; simp [hq] at hname
    intro args w
    simp [callFunc, hgn, hnn, hbn]
  refine wpIn_rangeFunc ?_
  intro fn hfn
  -- from a world in which all lies ready
  have key : ∀ (u : World) (D : Nat) (mk : List Deferred), Below w.heap.size w u → (∀ w4, KeepsOthers u w4 → w.heap.size ≤ w4.heap.size → Dm β (mk ++ a.defers) w4) →
      CallsIn (Fw β.lp) (0 - 1) P gf (#[.func (.yield u.heap.size) #[] #[]] ++ C) (u.alloc (lpRec fn a.tmps ps assign body D .ready none)) (rangePost (Fw β.lp) 0 P u.heap.size (fun e a' w' => ∃ s', Q e s' ∧ Rel β nt lo s' a' w') { a with defers := mk ++ a.defers }) := by
    intro u D mk hwu hdm
    have hXu : XO { β with μ0 := μ, F0 := F } nx (I 0) u := by
      have hR : Rel { β with μ0 := μ, F0 := F } nt nx ⟨e, O, K, nx⟩ a w := by
        refine ⟨⟨hd.ko, hd.lp, hd.nr, hd.ms⟩, μ, F, hE, ⟨hX.s, hX.fa, hX.fb, Pm.le.refl _, fun _ _ q => q, hX.s.o.fresh, Nat.le_refl _, fun q => ?_⟩⟩
        have : β.dz = true := q
        rw [hdz] at this; cases this
      obtain ⟨_, μ1, F1, _, h1⟩ := h0 _ _ _ hR
      exact ⟨μ1, F1, h1.call hwu (fun _ _ q => q) (fun _ _ q _ => q) (fun a v q => (h1.s.keep hwu).o.mem a v q)⟩
    refine callsIn_Fw.2 (Calls.mono (range_calls hit hps I hC hE round hXu hdz) ?_)
    rintro en w3 ⟨⟨v, rfl⟩, hko, hend⟩
    have n0u : β.n0 ≤ u.heap.size := Nat.le_trans hX.s.o.base hwu.size
    have fin : ∀ {J : Objs × Toks × Nat} {e' : Exit} {st : LoopState} {pe : Option Code} {st' : LoopState} {pe' : Option Code}, w3.heap[u.heap.size]? = some (lpRec fn a.tmps ps assign body D st pe) → XO { β with μ0 := μ, F0 := F } nx J w3 → Q e' ⟨e, J.1, J.2.1, J.2.2⟩ →
        ∃ s', Q e' s' ∧ Rel β nt lo s' { a with defers := mk ++ a.defers } (w3.putObj u.heap.size (lpRec fn a.tmps ps assign body D st' pe')) := by
      rintro J e' st pe st' pe' hl ⟨μ2, F2, h2⟩ hq
      have h3 := h2.put (o' := lpRec fn a.tmps ps assign body D st' pe') n0u hl rfl
      refine ⟨_, hq, hdm _ (keepsOthers_put hko (Nat.le_refl _) _) ?_, μ2, F2, hE.mono h3.m0 h3.f0, ⟨h3.s, h3.fa, h3.fb, hX.m0.trans h3.m0, fun a v q => h3.f0 a v (hX.f0 a v q), hX.lo0, Nat.le_trans hX.lo1 h3.lo1, hX.dzl⟩⟩
      exact Nat.le_trans hwu.size (Nat.le_trans hko.size (grownBy_putObj' w3 _ _).size)
    rcases hend with ⟨hl, hxo⟩ | ⟨c, e', s', hl, hj, hq, hxo⟩
    · exact ⟨none, _, run_endLoop hl (by simp), fin hl hxo done⟩
    · refine ⟨some c, _, run_endLoop hl (by simp), ?_⟩
      have := fin (st' := .exhausted) (pe' := some c) hl hxo hq
      rcases hj with ⟨rfl, rfl⟩ | ⟨id, rfl, rfl⟩
      · exact wpIn_ret this
      · exact wpIn_exit this
  cases hlp : β.lp with
  | none =>
    rw [hlp] at key
    have hwu : Below w.heap.size w (w.alloc (.deferred (some []))) := below_alloc w _
    have hnew : (w.alloc (.deferred (some []))).heap[w.heap.size]? = some (.deferred (some [])) := World.alloc_heap_new w _
    have hen : (Instr.enterLoop fn a.tmps ps assign body none).run P w = .ok ((w.alloc (.deferred (some []))).heap.size, [mark w.heap.size]) ((w.alloc (.deferred (some []))).alloc (lpRec fn a.tmps ps assign body w.heap.size .ready none)) := by
      rw [World.size_alloc]; exact run_enterLoop_outer _ _ _ _ _
    generalize w.alloc (.deferred (some [])) = u at hwu hnew hen
    refine ⟨u.heap.size, [mark w.heap.size], _, { target := .fn (.func gf) C, args := #[.func (.yield u.heap.size) #[] #[]] }, u.alloc (lpRec fn a.tmps ps assign body w.heap.size .ready none), gf,
      #[.func (.yield u.heap.size) #[] #[]] ++ C, u.alloc (lpRec fn a.tmps ps assign body w.heap.size .ready none), hen, ?_, ?_, ?_, ?_, ?_⟩
    · simp only [resolve, hgc]
      simp [go_sem]
    · exact fun _ _ => trivial
    · simp [invoke, go_sem, eg]
    · exact Fw_nd
    · refine key u w.heap.size [mark w.heap.size] hwu ?_
      intro w4 hk4 hsz
      have hn := hd.nr
      refine ⟨hd.ko.trans ((keepsOthers_below hwu).trans hk4), hd.lp, fun h => ?_, ?_⟩
      · rcases h with h | h
        · rw [hdz] at h; cases h
        · rw [hlp] at h; cases h
      · obtain ⟨Ds, h1, h2, h3⟩ := hd.ms
        refine ⟨w.heap.size :: Ds, by rw [h1]; rfl, List.nodup_cons.2 ⟨fun hm => ?_, h2⟩, fun D hD => ?_⟩
        · have := (Array.getElem?_eq_some_iff.1 (h3 _ hm).2).1; omega
        · rcases List.mem_cons.1 hD with rfl | hD
          · exact ⟨⟨hX.s.o.base, hd.ko.size⟩, hk4.same _ _ hnew rfl⟩
          · exact ⟨(h3 D hD).1, hk4.same _ _ ((keepsOthers_below hwu).same _ _ (h3 D hD).2 rfl) rfl⟩
  | some l₀ =>
    rw [hlp] at key
    obtain ⟨r₀, hr₀⟩ := hd.lp l₀ hlp
    have hl₀ := hd.ko.same _ _ hr₀ rfl
    refine ⟨w.heap.size, [], w.alloc (lpRec fn a.tmps ps assign body r₀.defers .ready none), { target := .fn (.func gf) C, args := #[.func (.yield w.heap.size) #[] #[]] }, w.alloc (lpRec fn a.tmps ps assign body r₀.defers .ready none), gf,
      #[.func (.yield w.heap.size) #[] #[]] ++ C, w.alloc (lpRec fn a.tmps ps assign body r₀.defers .ready none), ?_, ?_, ?_, ?_, ?_, ?_⟩
    · exact run_enterLoop_inner hl₀ _ _ _ _ _
    · simp only [resolve, hgc]
      simp [go_sem]
    · exact fun _ _ => trivial
    · simp [invoke, go_sem, eg]
    · exact Fw_nd
    · exact key w r₀.defers [] (Below.refl _ _) (fun w4 hk4 _ => hd.keep hk4)
end
end Go.AM
end
section
namespace Go.AM
open Go.RowKit
set_option linter.unusedVariables false
set_option linter.unusedSimpArgs false
section
variable {P : Program} {T : Tab} {nt lo : Nat} {μ : Pm} {F : Mem} {n0 nx : Nat} {w0 w : World} {O : Objs} {K : Toks}
/-- an object, told otherwise -/
theorem RelS.re (h : RelS n0 w0 μ F O K nx w) {id : Nat} {o : Ob} {es' : List (List AV)} (ho : lk O id = some o) (hl : es'.length = o.es.length) (hz : ∀ (i : Nat) c, es'[i]? = some c → c.length = o.sz)
    (hv : ∀ (i : Nat) c' (j : Nat) v', es'[i]? = some c' → c'[j]? = some v' → ∃ c v, o.es[i]? = some c ∧ c[j]? = some v ∧ ∀ cv, RelV F μ v cv → RelV F μ v' cv) : RelS n0 w0 μ F ((id, some ⟨o.ty, o.sz, o.fz, es'⟩) :: O) K nx w := by
  have hsub : ∀ {i : Nat} {q : Ob}, lk ((id, some ⟨o.ty, o.sz, o.fz, es'⟩) :: O) i = some q → ∃ q', lk O i = some q' ∧ q'.ty = q.ty ∧ q'.sz = q.sz ∧ q'.fz = q.fz ∧ q.es.length = q'.es.length ∧ (∀ (i : Nat) c, q.es[i]? = some c → c.length = q.sz) ∧
      ((∀ cur : Array Value, (∀ (i : Nat) c (j : Nat) v, q'.es[i]? = some c → c[j]? = some v → RelV F μ v (cur.getD (i * q'.sz + j) undef) ∧ (cur.getD (i * q'.sz + j) undef).oneCell' = true) → ∀ (i : Nat) c (j : Nat) v, q.es[i]? = some c → c[j]? = some v → RelV F μ v (cur.getD (i * q.sz + j) undef) ∧ (cur.getD (i * q.sz + j) undef).oneCell' = true)) := by
    intro i q hq
    rw [lk_cons] at hq
    split at hq
    · rename_i he; subst he; cases hq
      refine ⟨o, ho, rfl, rfl, rfl, hl, hz, fun cur hc i c j v h1 h2 => ?_⟩
      obtain ⟨c0, v0, k1, k2, k3⟩ := hv i c j v h1 h2
      have := hc i c0 j v0 k1 k2
      exact ⟨k3 _ this.1, this.2⟩
    · obtain ⟨_, _, _, _, _, _, _, _, k, _⟩ := h.o.obj i q hq
      exact ⟨q, hq, rfl, rfl, rfl, rfl, k, fun cur hc => hc⟩
  refine ⟨⟨h.o.below, h.o.base, h.o.fresh, fun i q hq => ?_, fun i i' q q' b cs sz b' cs' sz' hne hq hq' => ?_, h.o.mem, fun i q b cs sz hq hm a v ha hab => ?_⟩, ⟨fun i ty sz n hi => ?_, h.t.apart⟩⟩
  · obtain ⟨q', k1, k2, k3, k4, k5, k6, k7⟩ := hsub hq
    obtain ⟨b, cs, cur, h1, h2, h3, h4, h5, h6, h7⟩ := h.o.obj i q' k1
    exact ⟨b, cs, cur, by rw [← k3]; exact h1, h2, by rw [← k2]; exact h3, h4, by rw [k5, ← k3]; exact h5, k6, k7 cur h7⟩
  · obtain ⟨r, k1, _⟩ := hsub hq
    obtain ⟨r', k1', _⟩ := hsub hq'
    exact h.o.apart i i' r r' b cs sz b' cs' sz' hne k1 k1'
  · obtain ⟨r, k1, k2, k3, k4, _⟩ := hsub hq
    have := h.o.froz i r b cs sz k1 hm a v ha hab
    rwa [k4, k3] at this
  · obtain ⟨cv, h1, h2, h3⟩ := h.t.tok i ty sz n hi
    refine ⟨cv, h1, h2, ?_⟩
    rcases h3 with h3 | ⟨b1, cap, cur1, h4, h5, h50, h6, h7, h8, h9, h10, h11⟩
    · exact .inl h3
    · refine .inr ⟨b1, cap, cur1, h4, h5, h50, h6, h7, h8, h9, h10, fun id' q cs' sz' hq hm => ?_⟩
      obtain ⟨r, k1, _⟩ := hsub hq
      exact h11 id' r cs' sz' k1 hm
theorem le_nilO {e : Env} {nx : Nat} (id j el : Nat) {esz ty sz fz : Nat} {c : List AV} (hob : lk O id = some ⟨ty, sz, fz, [c]⟩) (hc : c[j]? = some .nils) (hsz : Nat.blt 0 esz = true) :
    St.le ⟨e, O, K, nx⟩ ⟨e, (id, some ⟨ty, sz, fz, [c.set j (.app nx [])]⟩) :: O, (nx, some (el, esz, 0)) :: K, nx + 1⟩ lo nt := by
  intro β a w ⟨hd, μ, F, hE, hX⟩
  obtain ⟨hX1, hle1⟩ := hX.tokNil el (sz := esz) (by simpa [Nat.blt_eq] using hsz)
  refine ⟨hd, _, F, hE.mono hle1 (fun _ _ q => q), ⟨?_, hX1.fa, hX1.fb, hX1.m0, hX1.f0, hX1.lo0, hX1.lo1, hX1.dzl⟩⟩
  obtain ⟨_, _, _, _, _, _, _, _, hlen, _⟩ := hX.s.o.obj id _ hob
  refine hX1.s.re hob rfl (fun i c' hi => ?_) (fun i c' q v' hi hq => ?_)
  · cases i with
    | zero => simp at hi; subst hi; rw [List.length_set]; exact hlen 0 c rfl
    | succ i => simp at hi
  · cases i with
    | succ i => simp at hi
    | zero =>
      simp at hi; subst hi
      rw [List.getElem?_set] at hq
      split at hq
      · rename_i he
        split at hq
        · cases hq
          refine ⟨c, .nils, rfl, by rw [← he]; exact hc, fun cv hv => ?_⟩
          cases hv
          exact .app .ro0 (Pm.add_same _ _ _) (by simp) (fun _ => rfl)
        · cases hq
      · exact ⟨c, v', rfl, hq, fun cv hv => hv⟩
theorem W_nilO {x : Code} {Q : Exit → St → Prop} {e : Env} {nx : Nat} (id j el : Nat) {esz ty sz fz : Nat} {c c' : List AV} (hob : lk O id = some ⟨ty, sz, fz, [c]⟩) (hc : c[j]? = some .nils) (hsz : Nat.blt 0 esz = true) (hc' : c.set j (.app nx []) = c')
    (h : W P nt lo x ⟨e, (id, some ⟨ty, sz, fz, [c']⟩) :: O, (nx, some (el, esz, 0)) :: K, nx + 1⟩ Q) : W P nt lo x ⟨e, O, K, nx⟩ Q := by
  subst hc'
  exact W.of_le (le_nilO id j el hob hc hsz) h
theorem L_nilO {ops : Array Oper} {rest : List Oper} {Q : Exit → St → Prop} {e : Env} {nx : Nat} (id j el : Nat) {esz ty sz fz : Nat} {c c' : List AV} (hob : lk O id = some ⟨ty, sz, fz, [c]⟩) (hc : c[j]? = some .nils) (hsz : Nat.blt 0 esz = true) (hc' : c.set j (.app nx []) = c')
    (h : WL P nt lo ops rest ⟨e, (id, some ⟨ty, sz, fz, [c']⟩) :: O, (nx, some (el, esz, 0)) :: K, nx + 1⟩ Q) : WL P nt lo ops rest ⟨e, O, K, nx⟩ Q := by
  subst hc'
  exact WL.of_le (le_nilO id j el hob hc hsz) h
/-- a loop that counts -/
def forQ (nt lo : Nat) (I : Nat → St) (n k : Nat) (Q : Exit → St → Prop) : Exit → St → Prop
  | .normal, s => k < n ∧ s.le (I (k + 1)) lo nt
  | e, s => Q e s
theorem W_for {c : Code} {s : St} {Q : Exit → St → Prop} (n : Nat) (I : Nat → St) (h0 : s.le (I 0) lo nt) (round : ∀ k, k ≤ n → W P nt lo c (I k) (forQ nt lo I n k Q)) : W P nt lo (.loop c) s Q :=
  W_loop (ι := {k : Nat // k ≤ n}) (fun k => I k.1) (fun k => n - k.1) ⟨0, Nat.zero_le _⟩ h0 (fun i => (round i.1 i.2).mono (fun e s' h => by
    cases e with
    | normal => exact ⟨⟨i.1 + 1, h.1⟩, by have := h.1; dsimp only; omega, h.2⟩
    | _ => exact h))
theorem pass_for {s : St} {Q : Exit → St → Prop} {I : Nat → St} {n k id : Nat} (h : Q (.exit id) s) : forQ nt lo I n k Q (.exit id) s := h
theorem for_end {s : St} {Q : Exit → St → Prop} {I : Nat → St} {n k : Nat} (hk : k < n) (hl : s.le (I (k + 1)) lo nt) : forQ nt lo I n k Q .normal s := ⟨hk, hl⟩
def forV (nt : Nat) (I : Nat → St) (n k : Nat) (Q : Exit → Option Nat → St → Prop) : Exit → Option Nat → St → Prop
  | .normal, k', s => k < n ∧ k' = some (k + 1) ∧ s.le (I (k + 1)) 100 nt
  | e, k', s => Q e k' s
theorem V_for {c : Code} {ic : Ic} {s : St} {Q : Exit → Option Nat → St → Prop} (n : Nat) (I : Nat → St) (h0 : s.le (I 0) 100 nt) (round : ∀ k, k ≤ n → V P ic nt c (some k) (I k) (forV nt I n k Q)) : V P ic nt (.loop c) (some 0) s Q :=
  V_inv (ι := {k : Nat // k ≤ n}) (fun k => (k.1, I k.1)) (fun k => n - k.1) ⟨0, Nat.zero_le _⟩ rfl h0 (fun i W1 a w hI hr => wpIn_mono (round i.1 i.2 W1 a w hI hr) (fun e a' w' ⟨k', s', W2, h, i2, r⟩ => ⟨k', s', W2, by
    cases e with
    | normal => obtain ⟨h1, h2, h3⟩ := h; exact ⟨⟨i.1 + 1, h1⟩, by dsimp only; omega, h2, h3⟩
    | _ => exact h, i2, r⟩))
theorem passV_for {s : St} {Q : Exit → Option Nat → St → Prop} {I : Nat → St} {n k id : Nat} {k' : Option Nat} (h : Q (.exit id) k' s) : forV nt I n k Q (.exit id) k' s := h
theorem forV_end {s : St} {Q : Exit → Option Nat → St → Prop} {I : Nat → St} {n k : Nat} (hk : k < n) (hl : s.le (I (k + 1)) 100 nt) : forV nt I n k Q .normal (some (k + 1)) s := ⟨hk, rfl, hl⟩
end
end Go.AM
end
section
namespace Go.AM
open Go.Proofs
def Tb : Tab := [
  ⟨.other, 1, 0, [.und], none⟩,
  ⟨.func, 1, 8, [.nilf], none⟩,
  ⟨(.int .i64), 1, 8, [.int .i64 0], some [.int]⟩,
  ⟨(.int .i64), 1, 8, [.int .i64 0], some [.int]⟩,
  ⟨.bool, 1, 1, [.bool false], some [.bool]⟩,
  ⟨(.int .u8), 1, 1, [.int .u8 0], some [.int]⟩,
  ⟨(.int .u8), 1, 1, [.int .u8 0], some [.int]⟩,
  ⟨(.struct [(0, 2), (1, 3), (2, 4), (3, 6)]), 4, 24, [.int .i64 0, .int .i64 0, .bool false, .int .u8 0], some [.int, .int, .bool, .int]⟩,
  ⟨(.struct [(0, 2), (1, 3), (2, 4), (3, 6)]), 4, 24, [.int .i64 0, .int .i64 0, .bool false, .int .u8 0], some [.int, .int, .bool, .int]⟩,
  ⟨.str, 1, 16, [.str ByteArray.empty], some [.str]⟩,
  ⟨.str, 1, 16, [.str ByteArray.empty], some [.str]⟩,
  ⟨.str, 1, 16, [.str ByteArray.empty], some [.str]⟩,
  ⟨(.int .u64), 1, 8, [.int .u64 0], some [.int]⟩,
  ⟨(.struct [(0, 9), (1, 12)]), 2, 24, [.str ByteArray.empty, .int .u64 0], none⟩,
  ⟨(.struct [(0, 9), (1, 12)]), 2, 24, [.str ByteArray.empty, .int .u64 0], none⟩,
  ⟨.pointer, 1, 8, [.nilp], none⟩,
  ⟨.pointer, 1, 8, [.nilp], none⟩,
  ⟨.pointer, 1, 8, [.nilp], none⟩,
  ⟨(.struct [(0, 17)]), 1, 8, [.nilp], none⟩,
  ⟨(.struct [(0, 17)]), 1, 8, [.nilp], none⟩,
  ⟨.other, 1, 16, [.und], none⟩,
  ⟨(.int .i32), 1, 4, [.int .i32 0], some [.int]⟩,
  ⟨(.struct [(0, 3), (1, 3), (2, 3)]), 3, 24, [.int .i64 0, .int .i64 0, .int .i64 0], some [.int, .int, .int]⟩,
  ⟨(.struct [(0, 3), (1, 3), (2, 3)]), 3, 24, [.int .i64 0, .int .i64 0, .int .i64 0], some [.int, .int, .int]⟩,
  ⟨(.slice 44), 1, 24, [.nils], none⟩,
  ⟨(.struct [(0, 23), (3, 3), (4, 3), (5, 24), (6, 3)]), 7, 72, [.int .i64 0, .int .i64 0, .int .i64 0, .int .i64 0, .int .i64 0, .nils, .int .i64 0], none⟩,
  ⟨(.struct [(0, 23), (3, 3), (4, 3), (5, 24), (6, 3)]), 7, 72, [.int .i64 0, .int .i64 0, .int .i64 0, .int .i64 0, .int .i64 0, .nils, .int .i64 0], none⟩,
  ⟨(.struct [(0, 2), (1, 2)]), 2, 16, [.int .i64 0, .int .i64 0], some [.int, .int]⟩,
  ⟨(.struct [(0, 2), (1, 2)]), 2, 16, [.int .i64 0, .int .i64 0], some [.int, .int]⟩,
  ⟨(.struct [(0, 26), (7, 3), (8, 3), (9, 28), (11, 3)]), 12, 112, [.int .i64 0, .int .i64 0, .int .i64 0, .int .i64 0, .int .i64 0, .nils, .int .i64 0, .int .i64 0, .int .i64 0, .int .i64 0, .int .i64 0, .int .i64 0], none⟩,
  ⟨(.struct [(0, 26), (7, 3), (8, 3), (9, 28), (11, 3)]), 12, 112, [.int .i64 0, .int .i64 0, .int .i64 0, .int .i64 0, .int .i64 0, .nils, .int .i64 0, .int .i64 0, .int .i64 0, .int .i64 0, .int .i64 0, .int .i64 0], none⟩,
  ⟨(.slice 60), 1, 24, [.nils], none⟩,
  ⟨(.struct [(0, 3), (1, 31)]), 2, 32, [.int .i64 0, .nils], none⟩,
  ⟨(.struct [(0, 3), (1, 31)]), 2, 32, [.int .i64 0, .nils], none⟩,
  ⟨(.int .i64), 1, 8, [.int .i64 0], some [.int]⟩,
  ⟨.other, 1, 0, [.und], none⟩,
  ⟨.func, 1, 8, [.nilf], none⟩,
  ⟨(.struct [(0, 3), (1, 3), (2, 3), (3, 3), (4, 3), (5, 3), (6, 3), (7, 3)]), 8, 64, [.int .i64 0, .int .i64 0, .int .i64 0, .int .i64 0, .int .i64 0, .int .i64 0, .int .i64 0, .int .i64 0], some [.int, .int, .int, .int, .int, .int, .int, .int]⟩,
  ⟨(.struct [(0, 3), (1, 3), (2, 3), (3, 3), (4, 3), (5, 3), (6, 3), (7, 3)]), 8, 64, [.int .i64 0, .int .i64 0, .int .i64 0, .int .i64 0, .int .i64 0, .int .i64 0, .int .i64 0, .int .i64 0], some [.int, .int, .int, .int, .int, .int, .int, .int]⟩,
  ⟨(.slice 107), 1, 24, [.nils], none⟩,
  ⟨(.slice 21), 1, 24, [.nils], none⟩,
  ⟨(.struct [(0, 3), (1, 3)]), 2, 16, [.int .i64 0, .int .i64 0], some [.int, .int]⟩,
  ⟨(.struct [(0, 3), (1, 3)]), 2, 16, [.int .i64 0, .int .i64 0], some [.int, .int]⟩,
  ⟨(.struct [(0, 3), (1, 3), (2, 3), (3, 3), (4, 38), (12, 39), (13, 40), (14, 42), (16, 42), (18, 3), (19, 3), (20, 3), (21, 3)]), 22, 208, [.int .i64 0, .int .i64 0, .int .i64 0, .int .i64 0, .int .i64 0, .int .i64 0, .int .i64 0, .int .i64 0, .int .i64 0, .int .i64 0, .int .i64 0, .int .i64 0, .nils, .nils, .int .i64 0, .int .i64 0, .int .i64 0, .int .i64 0, .int .i64 0, .int .i64 0, .int .i64 0, .int .i64 0], none⟩,
  ⟨(.struct [(0, 3), (1, 3), (2, 3), (3, 3), (4, 38), (12, 39), (13, 40), (14, 42), (16, 42), (18, 3), (19, 3), (20, 3), (21, 3)]), 22, 208, [.int .i64 0, .int .i64 0, .int .i64 0, .int .i64 0, .int .i64 0, .int .i64 0, .int .i64 0, .int .i64 0, .int .i64 0, .int .i64 0, .int .i64 0, .int .i64 0, .nils, .nils, .int .i64 0, .int .i64 0, .int .i64 0, .int .i64 0, .int .i64 0, .int .i64 0, .int .i64 0, .int .i64 0], none⟩,
  ⟨(.struct [(0, 44), (22, 23), (25, 23)]), 28, 256, [.int .i64 0, .int .i64 0, .int .i64 0, .int .i64 0, .int .i64 0, .int .i64 0, .int .i64 0, .int .i64 0, .int .i64 0, .int .i64 0, .int .i64 0, .int .i64 0, .nils, .nils, .int .i64 0, .int .i64 0, .int .i64 0, .int .i64 0, .int .i64 0, .int .i64 0, .int .i64 0, .int .i64 0, .int .i64 0, .int .i64 0, .int .i64 0, .int .i64 0, .int .i64 0, .int .i64 0], none⟩,
  ⟨(.struct [(0, 44), (22, 23), (25, 23)]), 28, 256, [.int .i64 0, .int .i64 0, .int .i64 0, .int .i64 0, .int .i64 0, .int .i64 0, .int .i64 0, .int .i64 0, .int .i64 0, .int .i64 0, .int .i64 0, .int .i64 0, .nils, .nils, .int .i64 0, .int .i64 0, .int .i64 0, .int .i64 0, .int .i64 0, .int .i64 0, .int .i64 0, .int .i64 0, .int .i64 0, .int .i64 0, .int .i64 0, .int .i64 0, .int .i64 0, .int .i64 0], none⟩,
  ⟨.other, 1, 0, [.und], none⟩,
  ⟨.func, 1, 8, [.nilf], none⟩,
  ⟨.func, 1, 8, [.nilf], none⟩,
  ⟨.func, 1, 8, [.nilf], none⟩,
  ⟨.func, 1, 8, [.nilf], none⟩,
  ⟨.func, 1, 8, [.nilf], none⟩,
  ⟨(.struct [(0, 3), (1, 3), (2, 3), (3, 31)]), 4, 48, [.int .i64 0, .int .i64 0, .int .i64 0, .nils], none⟩,
  ⟨(.struct [(0, 3), (1, 3), (2, 3), (3, 31)]), 4, 48, [.int .i64 0, .int .i64 0, .int .i64 0, .nils], none⟩,
  ⟨.other, 1, 0, [.und], none⟩,
  ⟨.func, 1, 8, [.nilf], none⟩,
  ⟨.func, 1, 8, [.nilf], none⟩,
  ⟨.func, 1, 8, [.nilf], none⟩,
  ⟨.func, 1, 8, [.nilf], none⟩,
  ⟨(.int .i8), 1, 1, [.int .i8 0], some [.int]⟩,
  ⟨.func, 1, 8, [.nilf], none⟩,
  ⟨(.struct [(0, 3), (1, 3), (2, 28), (4, 28)]), 6, 48, [.int .i64 0, .int .i64 0, .int .i64 0, .int .i64 0, .int .i64 0, .int .i64 0], some [.int, .int, .int, .int, .int, .int]⟩,
  ⟨(.struct [(0, 3), (1, 3), (2, 28), (4, 28)]), 6, 48, [.int .i64 0, .int .i64 0, .int .i64 0, .int .i64 0, .int .i64 0, .int .i64 0], some [.int, .int, .int, .int, .int, .int]⟩,
  ⟨(.struct [(0, 26), (7, 3), (8, 3), (9, 28), (11, 28), (13, 3), (14, 63)]), 20, 176, [.int .i64 0, .int .i64 0, .int .i64 0, .int .i64 0, .int .i64 0, .nils, .int .i64 0, .int .i64 0, .int .i64 0, .int .i64 0, .int .i64 0, .int .i64 0, .int .i64 0, .int .i64 0, .int .i64 0, .int .i64 0, .int .i64 0, .int .i64 0, .int .i64 0, .int .i64 0], none⟩,
  ⟨(.struct [(0, 26), (7, 3), (8, 3), (9, 28), (11, 28), (13, 3), (14, 63)]), 20, 176, [.int .i64 0, .int .i64 0, .int .i64 0, .int .i64 0, .int .i64 0, .nils, .int .i64 0, .int .i64 0, .int .i64 0, .int .i64 0, .int .i64 0, .int .i64 0, .int .i64 0, .int .i64 0, .int .i64 0, .int .i64 0, .int .i64 0, .int .i64 0, .int .i64 0, .int .i64 0], none⟩,
  ⟨.other, 1, 0, [.und], none⟩,
  ⟨.func, 1, 8, [.nilf], none⟩,
  ⟨.func, 1, 8, [.nilf], none⟩,
  ⟨.other, 1, 0, [.und], none⟩,
  ⟨.func, 1, 8, [.nilf], none⟩,
  ⟨.func, 1, 8, [.nilf], none⟩,
  ⟨.other, 1, 0, [.und], none⟩,
  ⟨.func, 1, 8, [.nilf], none⟩,
  ⟨.other, 1, 0, [.und], none⟩,
  ⟨.func, 1, 8, [.nilf], none⟩,
  ⟨.func, 1, 8, [.nilf], none⟩,
  ⟨.other, 1, 0, [.und], none⟩,
  ⟨.func, 1, 8, [.nilf], none⟩,
  ⟨.func, 1, 8, [.nilf], none⟩,
  ⟨.func, 1, 8, [.nilf], none⟩,
  ⟨(.slice 2), 1, 24, [.nils], none⟩,
  ⟨.other, 1, 0, [.und], none⟩,
  ⟨.func, 1, 8, [.nilf], none⟩,
  ⟨.func, 1, 8, [.nilf], none⟩,
  ⟨.func, 1, 8, [.nilf], none⟩,
  ⟨.func, 1, 8, [.nilf], none⟩,
  ⟨.func, 1, 8, [.nilf], none⟩,
  ⟨.func, 1, 8, [.nilf], none⟩,
  ⟨(.struct [(0, 28), (2, 4)]), 3, 24, [.int .i64 0, .int .i64 0, .bool false], some [.int, .int, .bool]⟩,
  ⟨(.struct [(0, 28), (2, 4)]), 3, 24, [.int .i64 0, .int .i64 0, .bool false], some [.int, .int, .bool]⟩,
  ⟨(.slice 93), 1, 24, [.nils], none⟩,
  ⟨.func, 1, 8, [.nilf], none⟩,
  ⟨(.slice 28), 1, 24, [.nils], none⟩,
  ⟨.func, 1, 8, [.nilf], none⟩,
  ⟨.func, 1, 8, [.nilf], none⟩,
  ⟨.func, 1, 8, [.nilf], none⟩,
  ⟨.func, 1, 8, [.nilf], none⟩,
  ⟨.func, 1, 8, [.nilf], none⟩,
  ⟨.func, 1, 8, [.nilf], none⟩,
  ⟨(.slice 112), 1, 24, [.nils], none⟩,
  ⟨.other, 1, 0, [.und], none⟩,
  ⟨.func, 1, 8, [.nilf], none⟩,
  ⟨(.array 2 3), 2, 16, [.int .i64 0, .int .i64 0], none⟩,
  ⟨(.array 2 4), 2, 2, [.bool false, .bool false], none⟩,
  ⟨.func, 1, 8, [.nilf], none⟩,
  ⟨.func, 1, 8, [.nilf], none⟩,
  ⟨(.int .i16), 1, 2, [.int .i16 0], some [.int]⟩,
  ⟨.func, 1, 8, [.nilf], none⟩,
  ⟨.func, 1, 8, [.nilf], none⟩,
  ⟨.func, 1, 8, [.nilf], none⟩,
  ⟨(.struct [(0, 3), (1, 3)]), 2, 16, [.int .i64 0, .int .i64 0], some [.int, .int]⟩,
  ⟨(.struct [(0, 3), (1, 3)]), 2, 16, [.int .i64 0, .int .i64 0], some [.int, .int]⟩,
  ⟨.func, 1, 8, [.nilf], none⟩,
  ⟨.func, 1, 8, [.nilf], none⟩,
  ⟨.func, 1, 8, [.nilf], none⟩,
  ⟨(.slice 3), 1, 24, [.nils], none⟩,
  ⟨.func, 1, 8, [.nilf], none⟩,
  ⟨.func, 1, 8, [.nilf], none⟩,
  ⟨.func, 1, 8, [.nilf], none⟩,
  ⟨(.struct [(0, 44), (22, 23), (25, 23), (28, 3)]), 29, 264, [.int .i64 0, .int .i64 0, .int .i64 0, .int .i64 0, .int .i64 0, .int .i64 0, .int .i64 0, .int .i64 0, .int .i64 0, .int .i64 0, .int .i64 0, .int .i64 0, .nils, .nils, .int .i64 0, .int .i64 0, .int .i64 0, .int .i64 0, .int .i64 0, .int .i64 0, .int .i64 0, .int .i64 0, .int .i64 0, .int .i64 0, .int .i64 0, .int .i64 0, .int .i64 0, .int .i64 0, .int .i64 0], none⟩,
  ⟨(.struct [(0, 44), (22, 23), (25, 23), (28, 3)]), 29, 264, [.int .i64 0, .int .i64 0, .int .i64 0, .int .i64 0, .int .i64 0, .int .i64 0, .int .i64 0, .int .i64 0, .int .i64 0, .int .i64 0, .int .i64 0, .int .i64 0, .nils, .nils, .int .i64 0, .int .i64 0, .int .i64 0, .int .i64 0, .int .i64 0, .int .i64 0, .int .i64 0, .int .i64 0, .int .i64 0, .int .i64 0, .int .i64 0, .int .i64 0, .int .i64 0, .int .i64 0, .int .i64 0], none⟩,
  ⟨.other, 1, 0, [.und], none⟩,
  ⟨.func, 1, 8, [.nilf], none⟩,
  ⟨.other, 1, 0, [.und], none⟩,
  ⟨.func, 1, 8, [.nilf], none⟩,
  ⟨(.struct [(0, 28), (2, 4)]), 3, 24, [.int .i64 0, .int .i64 0, .bool false], some [.int, .int, .bool]⟩,
  ⟨(.struct [(0, 28), (2, 4)]), 3, 24, [.int .i64 0, .int .i64 0, .bool false], some [.int, .int, .bool]⟩,
  ⟨.func, 1, 8, [.nilf], none⟩,
  ⟨.func, 1, 8, [.nilf], none⟩,
  ⟨.func, 1, 8, [.nilf], none⟩,
  ⟨(.slice 23), 1, 24, [.nils], none⟩,
  ⟨(.struct [(0, 34), (1, 3), (2, 3)]), 3, 24, [.int .i64 0, .int .i64 0, .int .i64 0], some [.int, .int, .int]⟩,
  ⟨(.struct [(0, 34), (1, 3), (2, 3)]), 3, 24, [.int .i64 0, .int .i64 0, .int .i64 0], some [.int, .int, .int]⟩,
  ⟨.other, 1, 0, [.und], none⟩,
  ⟨.func, 1, 8, [.nilf], none⟩,
  ⟨.func, 1, 8, [.nilf], none⟩,
  ⟨.func, 1, 8, [.nilf], none⟩,
  ⟨.func, 1, 8, [.nilf], none⟩,
  ⟨.func, 1, 8, [.nilf], none⟩,
  ⟨.func, 1, 8, [.nilf], none⟩,
  ⟨.pointer, 1, 8, [.nilp], none⟩,
  ⟨.func, 1, 8, [.nilf], none⟩,
  ⟨.func, 1, 8, [.nilf], none⟩,
  ⟨.func, 1, 8, [.nilf], none⟩,
  ⟨(.int .u64), 1, 8, [.int .u64 0], some [.int]⟩,
  ⟨.func, 1, 8, [.nilf], none⟩,
  ⟨.func, 1, 8, [.nilf], none⟩,
  ⟨.func, 1, 8, [.nilf], none⟩,
  ⟨.func, 1, 8, [.nilf], none⟩,
  ⟨.func, 1, 8, [.nilf], none⟩,
  ⟨.pointer, 1, 8, [.nilp], none⟩,
  ⟨.other, 1, 0, [.und], none⟩,
  ⟨.func, 1, 8, [.nilf], none⟩,
  ⟨.func, 1, 8, [.nilf], none⟩,
  ⟨.func, 1, 8, [.nilf], none⟩,
  ⟨.func, 1, 8, [.nilf], none⟩,
  ⟨.func, 1, 8, [.nilf], none⟩,
  ⟨.other, 1, 0, [.und], none⟩,
  ⟨.func, 1, 8, [.nilf], none⟩,
  ⟨.func, 1, 8, [.nilf], none⟩,
  ⟨.func, 1, 8, [.nilf], none⟩,
  ⟨.func, 1, 8, [.nilf], none⟩,
  ⟨.func, 1, 8, [.nilf], none⟩,
  ⟨.other, 1, 0, [.und], none⟩,
  ⟨.func, 1, 8, [.nilf], none⟩,
  ⟨.func, 1, 8, [.nilf], none⟩,
  ⟨.other, 1, 0, [.und], none⟩,
  ⟨.func, 1, 8, [.nilf], none⟩,
  ⟨.func, 1, 8, [.nilf], none⟩,
  ⟨.other, 1, 0, [.und], none⟩,
  ⟨.func, 1, 8, [.nilf], none⟩,
  ⟨.func, 1, 8, [.nilf], none⟩,
  ⟨.func, 1, 8, [.nilf], none⟩,
  ⟨.func, 1, 8, [.nilf], none⟩,
  ⟨.func, 1, 8, [.nilf], none⟩,
  ⟨(.int .u64), 1, 8, [.int .u64 0], some [.int]⟩,
  ⟨.other, 1, 0, [.und], none⟩,
  ⟨.func, 1, 8, [.nilf], none⟩,
  ⟨(.array 3 3), 3, 24, [.int .i64 0, .int .i64 0, .int .i64 0], none⟩,
  ⟨(.struct [(0, 4), (1, 4), (2, 4), (3, 4), (4, 4), (5, 4), (6, 4), (7, 4)]), 8, 8, [.bool false, .bool false, .bool false, .bool false, .bool false, .bool false, .bool false, .bool false], some [.bool, .bool, .bool, .bool, .bool, .bool, .bool, .bool]⟩,
  ⟨(.struct [(0, 4), (1, 4), (2, 4), (3, 4), (4, 4), (5, 4), (6, 4), (7, 4)]), 8, 8, [.bool false, .bool false, .bool false, .bool false, .bool false, .bool false, .bool false, .bool false], some [.bool, .bool, .bool, .bool, .bool, .bool, .bool, .bool]⟩,
  ⟨.other, 1, 0, [.und], none⟩,
  ⟨.func, 1, 8, [.nilf], none⟩,
  ⟨.func, 1, 8, [.nilf], none⟩,
  ⟨.func, 1, 8, [.nilf], none⟩,
  ⟨.other, 1, 0, [.und], none⟩,
  ⟨.func, 1, 8, [.nilf], none⟩,
  ⟨.func, 1, 8, [.nilf], none⟩,
  ⟨.func, 1, 8, [.nilf], none⟩,
  ⟨.other, 1, 0, [.und], none⟩,
  ⟨.func, 1, 8, [.nilf], none⟩,
  ⟨.func, 1, 8, [.nilf], none⟩,
  ⟨.func, 1, 8, [.nilf], none⟩,
  ⟨(.struct [(0, 17), (1, 17), (2, 17), (3, 9)]), 4, 40, [.nilp, .nilp, .nilp, .str ByteArray.empty], none⟩,
  ⟨(.struct [(0, 17), (1, 17), (2, 17), (3, 9)]), 4, 40, [.nilp, .nilp, .nilp, .str ByteArray.empty], none⟩,
  ⟨(.array 0 16), 0, 0, [], none⟩,
  ⟨(.struct [(0, 196)]), 0, 0, [], none⟩,
  ⟨(.struct [(0, 196)]), 0, 0, [], none⟩,
  ⟨(.int .u32), 1, 4, [.int .u32 0], some [.int]⟩,
  ⟨(.int .u8), 1, 1, [.int .u8 0], some [.int]⟩,
  ⟨(.int .u8), 1, 1, [.int .u8 0], some [.int]⟩,
  ⟨.func, 1, 8, [.nilf], none⟩,
  ⟨.pointer, 1, 8, [.nilp], none⟩,
  ⟨(.int .i32), 1, 4, [.int .i32 0], some [.int]⟩,
  ⟨(.int .i32), 1, 4, [.int .i32 0], some [.int]⟩,
  ⟨(.struct [(0, 12), (1, 12), (2, 199), (3, 200), (4, 5), (5, 5), (6, 201), (7, 202), (8, 203), (9, 204), (10, 205)]), 11, 48, [.int .u64 0, .int .u64 0, .int .u32 0, .int .u8 0, .int .u8 0, .int .u8 0, .int .u8 0, .nilf, .nilp, .int .i32 0, .int .i32 0], none⟩,
  ⟨(.struct [(0, 12), (1, 12), (2, 199), (3, 200), (4, 5), (5, 5), (6, 201), (7, 202), (8, 203), (9, 204), (10, 205)]), 11, 48, [.int .u64 0, .int .u64 0, .int .u32 0, .int .u8 0, .int .u8 0, .int .u8 0, .int .u8 0, .nilf, .nilp, .int .i32 0, .int .i32 0], none⟩,
  ⟨.other, 1, 8, [.nilp], none⟩]
theorem Tb_ok : Tab.Ok Try.prog Tb := Tab.ok_of (n := 209) (by kernel_rfl)
theorem Tb_mixed : Try.prog.follows .mixedOrders = true := by kernel_rfl
end Go.AM
end
section
namespace Go.AM
open Go
structure Shape where
  (H W C : Int)
  deriving DecidableEq, Inhabited
structure Window where
  (KH KW SH SW Top Left Bottom Right : Int)
  deriving DecidableEq, Inhabited
structure Scale where
  (Mult Shift : Int)
  deriving DecidableEq, Inhabited
structure MOp where
  (Kind A B M : Int) (Win : Window) (Weights Bias : List Int) (SA SB : Scale) (Zero Pad Lo Hi : Int)
  deriving DecidableEq, Inhabited
structure Model where
  (In : Shape) (Lo Hi : Int) (Ops : List MOp) (Out : Int)
  deriving DecidableEq, Inhabited
structure Fault where
  (Err Op Chan : Int)
  deriving DecidableEq, Inhabited
structure Term where
  (W At : Int)
  deriving DecidableEq, Inhabited
structure Span where
  (Lo Hi : Int)
  deriving DecidableEq, Inhabited
def intC (x : Int) : List AV := [.int .i64 x]
def i16C (x : Int) : List AV := [.int .i16 x]
def i32C (x : Int) : List AV := [.int .i32 x]
def i8C (x : Int) : List AV := [.int .i8 x]
def shapeC (s : Shape) : List AV := [.int .i64 s.H, .int .i64 s.W, .int .i64 s.C]
def windowC (w : Window) : List AV := [.int .i64 w.KH, .int .i64 w.KW, .int .i64 w.SH, .int .i64 w.SW, .int .i64 w.Top, .int .i64 w.Left, .int .i64 w.Bottom, .int .i64 w.Right]
def scaleC (s : Scale) : List AV := [.int .i64 s.Mult, .int .i64 s.Shift]
def opC (o : MOp) : List AV := [.int .i64 o.Kind, .int .i64 o.A, .int .i64 o.B, .int .i64 o.M, .int .i64 o.Win.KH, .int .i64 o.Win.KW, .int .i64 o.Win.SH, .int .i64 o.Win.SW, .int .i64 o.Win.Top, .int .i64 o.Win.Left, .int .i64 o.Win.Bottom, .int .i64 o.Win.Right,
  .ro (o.Weights.map i16C), .ro (o.Bias.map i32C), .int .i64 o.SA.Mult, .int .i64 o.SA.Shift, .int .i64 o.SB.Mult, .int .i64 o.SB.Shift, .int .i64 o.Zero, .int .i64 o.Pad, .int .i64 o.Lo, .int .i64 o.Hi]
def modelC (m : Model) : List AV := [.int .i64 m.In.H, .int .i64 m.In.W, .int .i64 m.In.C, .int .i64 m.Lo, .int .i64 m.Hi, .ro (m.Ops.map opC), .int .i64 m.Out]
def faultC (f : Fault) : List AV := [.int .i64 f.Err, .int .i64 f.Op, .int .i64 f.Chan]
def termC (t : Term) : List AV := [.int .i64 t.W, .int .i64 t.At]
def spanC (s : Span) : List AV := [.int .i64 s.Lo, .int .i64 s.Hi]
/-- a whole number of Go's int -/
def In64 (x : Int) : Prop := -9223372036854775808 ≤ x ∧ x ≤ 9223372036854775807
def w64 (x : Int) : Int := IntKind.i64.wrap x
theorem w64_id {x : Int} (h : -9223372036854775808 ≤ x ∧ x ≤ 9223372036854775807) : IntKind.i64.wrap x = x := by rw [IntKind.wrap_i64]; omega
end Go.AM
end
section
open Go
namespace Go.AM
def I64 (x : Int) : Prop := (Lit.int .i64 x).wf = true
def I32 (x : Int) : Prop := (Lit.int .i32 x).wf = true
def I16 (x : Int) : Prop := (Lit.int .i16 x).wf = true
def I8 (x : Int) : Prop := (Lit.int .i8 x).wf = true
theorem I64.iff {x : Int} : I64 x ↔ -9223372036854775808 ≤ x ∧ x ≤ 9223372036854775807 := by simp [I64, Lit.wf, IntKind.min, IntKind.max, IntKind.signed, IntKind.bits]
theorem I32.iff {x : Int} : I32 x ↔ -2147483648 ≤ x ∧ x ≤ 2147483647 := by simp [I32, Lit.wf, IntKind.min, IntKind.max, IntKind.signed, IntKind.bits]
theorem I16.iff {x : Int} : I16 x ↔ -32768 ≤ x ∧ x ≤ 32767 := by simp [I16, Lit.wf, IntKind.min, IntKind.max, IntKind.signed, IntKind.bits]
theorem I8.iff {x : Int} : I8 x ↔ -128 ≤ x ∧ x ≤ 127 := by simp [I8, Lit.wf, IntKind.min, IntKind.max, IntKind.signed, IntKind.bits]
def ListWf {α : Type} (B : Nat) (wf : α → Prop) (l : List α) : Prop := l.length * B ≤ reachBytes ∧ ∀ x ∈ l, wf x
def Shape.Wf (s : Shape) : Prop := I64 s.H ∧ I64 s.W ∧ I64 s.C
def Window.Wf (w : Window) : Prop := I64 w.KH ∧ I64 w.KW ∧ I64 w.SH ∧ I64 w.SW ∧ I64 w.Top ∧ I64 w.Left ∧ I64 w.Bottom ∧ I64 w.Right
def Scale.Wf (s : Scale) : Prop := I64 s.Mult ∧ I64 s.Shift
def MOp.Wf (o : MOp) : Prop := I64 o.Kind ∧ I64 o.A ∧ I64 o.B ∧ I64 o.M ∧ o.Win.Wf ∧ ListWf 2 I16 o.Weights ∧ ListWf 4 I32 o.Bias ∧ o.SA.Wf ∧ o.SB.Wf ∧ I64 o.Zero ∧ I64 o.Pad ∧ I64 o.Lo ∧ I64 o.Hi
def Model.Wf (m : Model) : Prop := m.In.Wf ∧ I64 m.Lo ∧ I64 m.Hi ∧ ListWf 208 MOp.Wf m.Ops ∧ I64 m.Out
def Span.Wf (s : Span) : Prop := I64 s.Lo ∧ I64 s.Hi
def Term.Wf (t : Term) : Prop := I64 t.W ∧ I64 t.At
/-- what layer 12's statements ask -/
structure Ask12 where
  (M : Model) (Op Ch : Int) (S : Span) (X : List Int)
def ask12C (a : Ask12) : List AV := modelC a.M ++ ([.int .i64 a.Op] ++ ([.int .i64 a.Ch] ++ (spanC a.S ++ [.ro (a.X.map i8C)])))
def Ask12.Wf (a : Ask12) : Prop := a.M.Wf ∧ I64 a.Op ∧ I64 a.Ch ∧ a.S.Wf ∧ ListWf 1 I8 a.X
/-- what layer 10's statements ask -/
structure Ask10 where
  (M : Model) (Op Ch At : Int)
def ask10C (a : Ask10) : List AV := modelC a.M ++ [.int .i64 a.Op, .int .i64 a.Ch, .int .i64 a.At]
def Ask10.Wf (a : Ask10) : Prop := a.M.Wf ∧ I64 a.Op ∧ I64 a.Ch ∧ I64 a.At
/-- what layer 13's statements ask -/
structure Ask13 where
  (M : Model) (Op Ch : Int) (S : Span) (Depth At : Int) (X : List Int)
def ask13C (a : Ask13) : List AV := modelC a.M ++ ([.int .i64 a.Op] ++ ([.int .i64 a.Ch] ++ (spanC a.S ++ ([.int .i64 a.Depth] ++ ([.int .i64 a.At] ++ [.ro (a.X.map i8C)])))))
def Ask13.Wf (a : Ask13) : Prop := a.M.Wf ∧ I64 a.Op ∧ I64 a.Ch ∧ a.S.Wf ∧ I64 a.Depth ∧ I64 a.At ∧ ListWf 1 I8 a.X
/-- a channel's plan -/
structure Chan where
  (Width Depth : Int) (Part Total : Span)
  deriving Inhabited
def chanC (c : Chan) : List AV := [.int .i64 c.Width, .int .i64 c.Depth, .int .i64 c.Part.Lo, .int .i64 c.Part.Hi, .int .i64 c.Total.Lo, .int .i64 c.Total.Hi]
def Chan.Wf (c : Chan) : Prop := I64 c.Width ∧ I64 c.Depth ∧ c.Part.Wf ∧ c.Total.Wf
/-- what layer 18's statements ask -/
structure Ask18 where
  (M : Model) (Op Ch : Int) (S T : Span) (Depth : Int) (P : Chan)
def ask18C (a : Ask18) : List AV := modelC a.M ++ ([.int .i64 a.Op] ++ ([.int .i64 a.Ch] ++ (spanC a.S ++ (spanC a.T ++ ([.int .i64 a.Depth] ++ chanC a.P)))))
def Ask18.Wf (a : Ask18) : Prop := a.M.Wf ∧ I64 a.Op ∧ I64 a.Ch ∧ a.S.Wf ∧ a.T.Wf ∧ I64 a.Depth ∧ a.P.Wf
/-- what layer 23's statements ask -/
structure Ask23 where
  (M : Model) (Op Ch : Int) (S : Span) (Depth : Int)
def ask23C (a : Ask23) : List AV := modelC a.M ++ ([.int .i64 a.Op] ++ ([.int .i64 a.Ch] ++ (spanC a.S ++ [.int .i64 a.Depth])))
def Ask23.Wf (a : Ask23) : Prop := a.M.Wf ∧ I64 a.Op ∧ I64 a.Ch ∧ a.S.Wf ∧ I64 a.Depth
/-- what a law of layer 11 asks -/
structure Step11 where
  (M : Model) (X : List Int) (Op Pick : Int)
def step11C (a : Step11) : List AV := modelC a.M ++ ([.ro (a.X.map i8C)] ++ [.int .i64 a.Op, .int .i64 a.Pick])
def Step11.Wf (a : Step11) : Prop := a.M.Wf ∧ ListWf 1 I8 a.X ∧ I64 a.Op ∧ I64 a.Pick
end Go.AM
end
section
open Go Go.Proofs
set_option maxRecDepth 10000
set_option linter.unusedVariables false
namespace Go.AM
theorem opn23 : Opn Try.prog 23 3 shapeC Shape.Wf := Opn.iso (fun y => ⟨y.1, y.2.1, y.2.2⟩) (fun x => (x.H, x.W, x.C)) (fun _ => rfl) (fun _ => rfl) (fun _ h => h) (Opn.struct Try.underlying23 (by kernel_rfl) (Flds.cons rfl (Opn.int Try.underlying3 (by kernel_rfl)) (Flds.cons rfl (Opn.int Try.underlying3 (by kernel_rfl)) (Flds.one rfl (Opn.int Try.underlying3 (by kernel_rfl))))) rfl)
theorem opn38 : Opn Try.prog 38 8 windowC Window.Wf := Opn.iso (fun y => ⟨y.1, y.2.1, y.2.2.1, y.2.2.2.1, y.2.2.2.2.1, y.2.2.2.2.2.1, y.2.2.2.2.2.2.1, y.2.2.2.2.2.2.2⟩) (fun x => (x.KH, x.KW, x.SH, x.SW, x.Top, x.Left, x.Bottom, x.Right)) (fun _ => rfl) (fun _ => rfl) (fun _ h => h) (Opn.struct Try.underlying38 (by kernel_rfl) (Flds.cons rfl (Opn.int Try.underlying3 (by kernel_rfl)) (Flds.cons rfl (Opn.int Try.underlying3 (by kernel_rfl)) (Flds.cons rfl (Opn.int Try.underlying3 (by kernel_rfl)) (Flds.cons rfl (Opn.int Try.underlying3 (by kernel_rfl)) (Flds.cons rfl (Opn.int Try.underlying3 (by kernel_rfl)) (Flds.cons rfl (Opn.int Try.underlying3 (by kernel_rfl)) (Flds.cons rfl (Opn.int Try.underlying3 (by kernel_rfl)) (Flds.one rfl (Opn.int Try.underlying3 (by kernel_rfl)))))))))) rfl)
theorem opn42 : Opn Try.prog 42 2 scaleC Scale.Wf := Opn.iso (fun y => ⟨y.1, y.2⟩) (fun x => (x.Mult, x.Shift)) (fun _ => rfl) (fun _ => rfl) (fun _ h => h) (Opn.struct Try.underlying42 (by kernel_rfl) (Flds.cons rfl (Opn.int Try.underlying3 (by kernel_rfl)) (Flds.one rfl (Opn.int Try.underlying3 (by kernel_rfl)))) rfl)
theorem opn44 : Opn Try.prog 44 22 opC MOp.Wf := Opn.iso (fun y => ⟨y.1, y.2.1, y.2.2.1, y.2.2.2.1, y.2.2.2.2.1, y.2.2.2.2.2.1, y.2.2.2.2.2.2.1, y.2.2.2.2.2.2.2.1, y.2.2.2.2.2.2.2.2.1, y.2.2.2.2.2.2.2.2.2.1, y.2.2.2.2.2.2.2.2.2.2.1, y.2.2.2.2.2.2.2.2.2.2.2.1, y.2.2.2.2.2.2.2.2.2.2.2.2⟩) (fun x => (x.Kind, x.A, x.B, x.M, x.Win, x.Weights, x.Bias, x.SA, x.SB, x.Zero, x.Pad, x.Lo, x.Hi)) (fun _ => rfl) (fun _ => rfl) (fun _ h => h) (Opn.struct Try.underlying44 (by kernel_rfl) (Flds.cons rfl (Opn.int Try.underlying3 (by kernel_rfl)) (Flds.cons rfl (Opn.int Try.underlying3 (by kernel_rfl)) (Flds.cons rfl (Opn.int Try.underlying3 (by kernel_rfl)) (Flds.cons rfl (Opn.int Try.underlying3 (by kernel_rfl)) (Flds.cons (sz := 8) (f := windowC) (wf := Window.Wf) rfl opn38 (Flds.cons rfl (Opn.slice (B := 2) Try.underlying39 (by kernel_rfl) (by kernel_rfl) (by decide) (Opn.int Try.underlying107 (by kernel_rfl))) (Flds.cons rfl (Opn.slice (B := 4) Try.underlying40 (by kernel_rfl) (by kernel_rfl) (by decide) (Opn.int Try.underlying21 (by kernel_rfl))) (Flds.cons (sz := 2) (f := scaleC) (wf := Scale.Wf) rfl opn42 (Flds.cons (sz := 2) (f := scaleC) (wf := Scale.Wf) rfl opn42 (Flds.cons rfl (Opn.int Try.underlying3 (by kernel_rfl)) (Flds.cons rfl (Opn.int Try.underlying3 (by kernel_rfl)) (Flds.cons rfl (Opn.int Try.underlying3 (by kernel_rfl)) (Flds.one rfl (Opn.int Try.underlying3 (by kernel_rfl))))))))))))))) rfl)
theorem opn26 : Opn Try.prog 26 7 modelC Model.Wf := Opn.iso (fun y => ⟨y.1, y.2.1, y.2.2.1, y.2.2.2.1, y.2.2.2.2⟩) (fun x => (x.In, x.Lo, x.Hi, x.Ops, x.Out)) (fun _ => rfl) (fun _ => rfl) (fun _ h => h) (Opn.struct Try.underlying26 (by kernel_rfl) (Flds.cons (sz := 3) (f := shapeC) (wf := Shape.Wf) rfl opn23 (Flds.cons rfl (Opn.int Try.underlying3 (by kernel_rfl)) (Flds.cons rfl (Opn.int Try.underlying3 (by kernel_rfl)) (Flds.cons rfl (Opn.slice (B := 208) Try.underlying24 (by kernel_rfl) (by kernel_rfl) (by decide) opn44) (Flds.one rfl (Opn.int Try.underlying3 (by kernel_rfl))))))) rfl)
theorem opn28 : Opn Try.prog 28 2 spanC Span.Wf := Opn.iso (fun y => ⟨y.1, y.2⟩) (fun x => (x.Lo, x.Hi)) (fun _ => rfl) (fun _ => rfl) (fun _ h => h) (Opn.struct Try.underlying28 (by kernel_rfl) (Flds.cons rfl (Opn.int Try.underlying2 (by kernel_rfl)) (Flds.one rfl (Opn.int Try.underlying2 (by kernel_rfl)))) rfl)
theorem opn30 : Opn Try.prog 30 12 ask23C Ask23.Wf := Opn.iso (fun y => ⟨y.1, y.2.1, y.2.2.1, y.2.2.2.1, y.2.2.2.2⟩) (fun x => (x.M, x.Op, x.Ch, x.S, x.Depth)) (fun _ => rfl) (fun _ => rfl) (fun _ h => h) (Opn.struct Try.underlying30 (by kernel_rfl) (Flds.cons (sz := 7) (f := modelC) (wf := Model.Wf) rfl opn26 (Flds.cons rfl (Opn.int Try.underlying3 (by kernel_rfl)) (Flds.cons rfl (Opn.int Try.underlying3 (by kernel_rfl)) (Flds.cons (sz := 2) (f := spanC) (wf := Span.Wf) rfl opn28 (Flds.one rfl (Opn.int Try.underlying3 (by kernel_rfl))))))) rfl)
theorem arg0 : Opn Try.prog 30 12 ask23C Ask23.Wf := opn30
end Go.AM
end
section
namespace Go.AM
open Go.RowKit
set_option linter.unusedVariables false
set_option linter.unusedSimpArgs false
section
variable {P : Program} {T : Tab} {nt lo : Nat} {μ : Pm} {F : Mem} {n0 nx : Nat} {w0 w w' : World} {O : Objs} {K : Toks} {s : St} {β : Bs} {Q : Exit → St → Prop}
/-- a block that lay there unseen is told as an object -/
theorem RelS.add (h : RelS n0 w0 μ F O K nx w) {b : Nat} (hbn : n0 ≤ b) {cur : Array Value} {o : Ob} (hblk : w.heap[b]? = some (.cells cur o.ty (0, 0)))
    (hle : o.es.length * o.sz ≤ cur.size) (hlen : ∀ (i : Nat) c, o.es[i]? = some c → c.length = o.sz)
    (hrel : ∀ (i : Nat) c (j : Nat) v, o.es[i]? = some c → c[j]? = some v → RelV F μ v (cur.getD (i * o.sz + j) undef) ∧ (cur.getD (i * o.sz + j) undef).oneCell' = true)
    (hob : ∀ {id : Nat} {q : Ob}, lk O id = some q → ∀ {b' cs' sz'}, μ id = some (.ob b' cs' sz') → b' ≠ b)
    (htk : ∀ {id ty sz n : Nat}, lt K id = some (ty, sz, n) → ∀ {a : Addr} {m cap : Nat}, μ id = some (.tk n (.slice (some a) m cap)) → 0 < cap → a.block ≠ b)
    (hF : ∀ a v, F a = some v → a.block ≠ b) :
    RelS n0 w0 (μ.add nx (.ob b cur.size o.sz)) F ((nx, some o) :: O) K (nx + 1) w := by
  have hle' : μ.le (μ.add nx (.ob b cur.size o.sz)) := Pm.le_add _ (h.o.fresh nx (Nat.le_refl _))
  have hother : ∀ {id : Nat}, id < nx → (μ.add nx (.ob b cur.size o.sz)) id = μ id := fun {id} hid => Pm.add_other _ _ (by omega)
  refine ⟨⟨h.o.below, h.o.base, fun id hid => ?_, ?_, ?_, h.o.mem, ?_⟩, ⟨?_, ?_⟩⟩
  · rw [Pm.add_other _ _ (by omega)]; exact h.o.fresh id (by omega)
  · intro id q hq
    rw [lk_cons] at hq
    split at hq
    · rename_i he; subst he; cases hq
      exact ⟨b, cur.size, cur, Pm.add_same _ _ _, hbn, hblk, rfl, hle, hlen, fun i c j v h1 h2 => ⟨(hrel i c j v h1 h2).1.mono hle' (fun _ _ q => q), (hrel i c j v h1 h2).2⟩⟩
    · obtain ⟨b1, cs1, cur1, h1, h2, h3, h4, h5, h6, h7⟩ := h.o.obj id q hq
      refine ⟨b1, cs1, cur1, by rw [hother (h.obj_lt hq)]; exact h1, h2, h3, h4, h5, h6, fun i c j v p1 p2 => ⟨(h7 i c j v p1 p2).1.mono hle' (fun _ _ q => q), (h7 i c j v p1 p2).2⟩⟩
  · intro id id' q q' b1 cs1 sz1 b2 cs2 sz2 hne hq hq' hm hm'
    rw [lk_cons] at hq hq'
    split at hq
    · rename_i he; subst he
      rw [Pm.add_same] at hm; cases hm
      rw [if_neg hne] at hq'
      rw [hother (h.obj_lt hq')] at hm'
      exact (hob hq' hm').symm
    · rw [hother (h.obj_lt hq)] at hm
      split at hq'
      · rename_i he; subst he
        rw [Pm.add_same] at hm'; cases hm'
        exact hob hq hm
      · rw [hother (h.obj_lt hq')] at hm'
        exact h.o.apart id id' q q' _ _ _ _ _ _ hne hq hq' hm hm'
  · intro id q b1 cs1 sz1 hq hm a v ha hab
    rw [lk_cons] at hq
    split at hq
    · rename_i he; subst he
      rw [Pm.add_same] at hm; cases hm
      exact absurd hab (hF a v ha)
    · rw [hother (h.obj_lt hq)] at hm
      exact h.o.froz id q _ _ _ hq hm a v ha hab
  · intro id ty sz n hid
    obtain ⟨cv, h1, h2, h3⟩ := h.t.tok id ty sz n hid
    refine ⟨cv, by rw [hother (h.tok_lt hid)]; exact h1, h2, ?_⟩
    rcases h3 with h3 | ⟨b1, cap, cur1, h4, h5, h50, h6, h7, h8, h9, h10, h11⟩
    · exact .inl h3
    · refine .inr ⟨b1, cap, cur1, h4, h5, h50, h6, h7, h8, h9, h10, fun id' q cs' sz' hq hm => ?_⟩
      rw [lk_cons] at hq
      split at hq
      · rename_i he; subst he
        rw [Pm.add_same] at hm; cases hm
        rw [h4] at h1
        exact htk hid h1 h50 rfl
      · rw [hother (h.obj_lt hq)] at hm
        exact h11 id' q cs' sz' hq hm
  · intro id id' ty sz ty' sz' n n' b1 b2 m m' cap cap' hne hq hq' hm hm' p1 p2
    rw [hother (h.tok_lt hq)] at hm
    rw [hother (h.tok_lt hq')] at hm'
    exact h.t.apart id id' _ _ _ _ _ _ _ _ _ _ _ _ hne hq hq' hm hm' p1 p2
/-- a value that hangs on no object -/
theorem ground_rel {v : AV} {cv : Value} (h : RelV F μ v cv) (hg : grC v = true) : RelV F Pm0 v cv := by
  cases v with
  | nils => cases h; exact .nils
  | app _ _ => simp [grC] at hg
  | _ => exact demC_rel h hg
def OkR (P : Program) (f : FuncId) (args : List AV) (ty sz : Nat) (es : List (List AV)) (rs : List AV) : Prop :=
  Callable P f ∧ ∀ (Fa : Mem) (w : World) (cargs : Array Value), (∀ a v, Fa a = some v → w.cell? a = some v) → RelA Pm0 Fa args cargs →
  Calls P f cargs w fun e w' => ∃ A F' b cur a cap, e = .returned (.tuple A) ∧ A.size = rs.length + 1 ∧ A.getD 0 undef = .slice (some a) es.length cap ∧ es.length ≤ cap ∧ cap ≤ maxLen ∧ (cap ≠ 0 → a = ⟨b, 0, none⟩ ∧ cap * sz = cur.size) ∧ (∀ (j : Nat) v, rs[j]? = some v → RelV F' Pm0 v (A.getD (j + 1) undef)) ∧
    Below w.heap.size w w' ∧ (∀ a v, Fa a = some v → F' a = some v) ∧ (∀ a v, F' a = some v → a.block < w.heap.size → Fa a = some v) ∧ (∀ a v, F' a = some v → w'.cell? a = some v) ∧ w.heap.size ≤ b ∧ w'.heap[b]? = some (.cells cur ty (0, 0)) ∧ es.length * sz ≤ cur.size ∧
    (∀ (i : Nat) c, es[i]? = some c → c.length = sz) ∧ (∀ (i : Nat) c (j : Nat) v, es[i]? = some c → c[j]? = some v → RelV F' Pm0 v (cur.getD (i * sz + j) undef) ∧ (cur.getD (i * sz + j) undef).oneCell' = true) ∧ ∀ a v, F' a = some v → a.block ≠ b
def EndsR (T : Tab) (fn : Func) (ty sz : Nat) (es : List (List AV)) (rs : List AV) (e : Exit) (s : St) : Prop := (e = .normal ∨ e = .ret) ∧ ∃ c x l id, resList T s fn.results.toList = some (c, .row id 0 es.length :: x :: l) ∧ c ∧ lk s.O id = some ⟨ty, sz, 0, es⟩ ∧ (x :: l).map demA = rs ∧ rs.all grA = true ∧ es.all (·.all grC) = true
theorem OkR.of_W (hT : Tab.Ok P T) {f : FuncId} {fn : Func} (hf : P.funcs[f]? = some fn) {c : Code} (hb : fn.body = some c) {args : List AV} {ty sz : Nat} {es : List (List AV)} {rs : List AV} (hnm : (fn.name == "runtime.NumGoroutine") = false) (hal : args.length ≤ fn.ntmps)
    (h : W P fn.ntmps 0 c ⟨enum 0 args, [], [], 0⟩ (EndsR T fn ty sz es rs)) : OkR P f args ty sz es rs := by
  refine ⟨⟨fn, hf, by rw [hb]; rfl, hnm⟩, ?_⟩
  intro Fa w cargs hFa hA
  have hRel : Rel ⟨w.heap.size, w, Fa, Pm0, Fa, none, w, false⟩ fn.ntmps 0 ⟨enum 0 args, [], [], 0⟩ { tmps := cargs ++ Array.replicate (fn.ntmps - cargs.size) undef, defers := [] } w := by
    refine ⟨⟨.refl _, fun l h => (by cases h), fun _ => rfl, [], rfl, List.nodup_nil, fun D h => (by cases h)⟩, Pm0, Fa, RelE.enter hA hal, ⟨⟨⟨Below.refl _ _, Nat.le_refl _, fun _ _ => rfl, fun id o ho => by simp [lk] at ho, fun id id' o o' b cs sz b' cs' sz' _ ho => by simp [lk] at ho, hFa, fun id o b cs sz ho => by simp [lk] at ho⟩, ⟨fun id ty sz n hid => by simp [lt] at hid, fun id id' ty sz ty' sz' n n' b b' m m' cap cap' _ hid => by simp [lt] at hid⟩⟩, fun _ _ q => q, fun _ _ q _ => q, Pm.le.refl _, fun _ _ q => q, fun _ _ => rfl, Nat.le_refl _, fun h => (by cases h)⟩⟩
  refine callsIn_wide.1 (callsIn_of_wp_marks (F := Fence.wide) (n := 0) hf hb trivial (wpIn_mono (h _ _ w hRel) ?_))
  rintro e a' w' ⟨s', ⟨he, cnd, x, l, id, hres, hc, hlk, hrs, hg, hge⟩, ⟨hko, _, _, Ds, hds, hnd, hD⟩, μ, F, hE, hX⟩
  have fin : LeavesInM Fence.wide 0 P fn a'.tmps (fun e w' => ∃ A F' b cur a cap, e = .returned (.tuple A) ∧ A.size = rs.length + 1 ∧ A.getD 0 undef = .slice (some a) es.length cap ∧ es.length ≤ cap ∧ cap ≤ maxLen ∧ (cap ≠ 0 → a = ⟨b, 0, none⟩ ∧ cap * sz = cur.size) ∧ (∀ (j : Nat) v, rs[j]? = some v → RelV F' Pm0 v (A.getD (j + 1) undef)) ∧
    Below w.heap.size w w' ∧ (∀ a v, Fa a = some v → F' a = some v) ∧ (∀ a v, F' a = some v → a.block < w.heap.size → Fa a = some v) ∧ (∀ a v, F' a = some v → w'.cell? a = some v) ∧ w.heap.size ≤ b ∧ w'.heap[b]? = some (.cells cur ty (0, 0)) ∧ es.length * sz ≤ cur.size ∧
    (∀ (i : Nat) c, es[i]? = some c → c.length = sz) ∧ (∀ (i : Nat) c (j : Nat) v, es[i]? = some c → c[j]? = some v → RelV F' Pm0 v (cur.getD (i * sz + j) undef) ∧ (cur.getD (i * sz + j) undef).oneCell' = true) ∧ ∀ a v, F' a = some v → a.block ≠ b) a'.defers .returning w' := by
    rw [hds]
    refine leaves_marks Ds w' hnd hD hX hko (fun w2 hX2 _ => ?_)
    obtain ⟨cv, hrun, hv⟩ := run_results hT hE hX2.s.o hres hc
    obtain ⟨b, cs, cur, k1, k2, k3, k4, k5, k6, k7⟩ := hX2.s.o.obj id _ hlk
    refine ⟨cv, hrun, ?_⟩
    simp only [pack] at hv
    cases hv with
    | @tup _ _ A hA hv =>
    have h0 := hv 0 _ rfl
    generalize hz : A.getD 0 undef = z at h0
    cases h0 with
    | @row _ _ _ _ cap b' cs' sz' a h1 hn hm ha =>
    rw [k1] at h1; cases h1
    dsimp only at k3 k4 k5 k6 k7
    refine ⟨A, F, b, cur, a, cap, rfl, by rw [hA, ← hrs]; simp, hz, hn, hm, fun hq => ?_, fun j v hj => ?_, hX2.s.o.below, hX2.fa, hX2.fb, hX2.s.o.mem, k2, k3, k5, k6, fun i c j v p1 p2 => ⟨ground_rel (k7 i c j v p1 p2).1 ?_, (k7 i c j v p1 p2).2⟩, fun a v q hab => ?_⟩
    · obtain ⟨q1, q2⟩ := ha hq
      exact ⟨by rw [q1, Nat.zero_mul], by rw [k4, ← q2, Nat.zero_add]⟩
    · rw [← hrs, List.getElem?_map] at hj
      cases hq : (x :: l)[j]? with
      | none => rw [hq] at hj; cases hj
      | some y =>
        rw [hq] at hj
        simp only [Option.map_some, Option.some.injEq] at hj
        subst hj
        refine demA_rel (hv (j + 1) y (by simpa using hq)) ?_
        rw [← hrs] at hg
        exact List.all_eq_true.1 hg _ (List.mem_map.2 ⟨y, List.mem_of_getElem? hq, rfl⟩)
    · exact List.all_eq_true.1 (List.all_eq_true.1 hge _ (List.mem_of_getElem? p1)) _ (List.mem_of_getElem? p2)
    · have := hX2.s.o.froz id _ _ _ _ hlk k1 a v q hab
      simp at this
  rcases he with rfl | rfl <;> exact fin
theorem fn_okR (hT : Tab.Ok P T) {f : FuncId} {fn : Func} (hf : P.funcs[f]? = some fn) {c : Code} (hb : fn.body = some c) {args : List AV} {ty sz : Nat} {es : List (List AV)} {rs : List AV} {n : Nat} (hn : fn.ntmps = n) {e : Env} (he : enum 0 args = e) (hnm : (fn.name == "runtime.NumGoroutine") = false) (hal : Nat.ble args.length n = true)
    (h : W P n 0 c ⟨e, [], [], 0⟩ (EndsR T fn ty sz es rs)) : OkR P f args ty sz es rs := by
  subst hn he
  exact OkR.of_W hT hf hb hnm (Nat.le_of_ble_eq_true hal) h
theorem endsR {fn : Func} {ex : Exit} {s : St} {c : Prop} {x : AV} {l : List AV} (id : Nat) {ty sz n : Nat} {es : List (List AV)} {rs : List AV} (hx : ex = .normal ∨ ex = .ret) (hn : n = es.length) (hl : resList T s fn.results.toList = some (c, .row id 0 n :: x :: l)) (hc : c) (hlk : lk s.O id = some ⟨ty, sz, 0, es⟩) (hrs : (x :: l).map demA = rs) (hg : rs.all grA = true) (hge : es.all (·.all grC) = true) : EndsR T fn ty sz es rs ex s := by
  subst hn
  exact ⟨hx, c, x, l, id, hl, hc, hlk, hrs, hg, hge⟩
/-- such a call -/
theorem WL_callr {ops : Array Oper} {o : Oper} {rest : List Oper} {c : Call} (ho : o.op = .call c) (hgd : o.guard = none) {g : FuncId} {ags : List AV} {p : Prop} (h : aCall (ev s.e) c = some (p, g, ags)) (hp : p)
    (hg : (ags.map demA).all grA = true) {ty sz : Nat} {es : List (List AV)} {rs : List AV} (hr : OkR P g (ags.map demA) ty sz es rs) (hn : WL P nt lo ops rest ⟨wr nt s.e o.dst (.tup (.row s.nx 0 es.length :: rs)), (s.nx, some ⟨ty, sz, 0, es⟩) :: s.O, s.K, s.nx + 1⟩ Q) : WL P nt lo ops (o :: rest) s Q := by
  intro β a w ⟨hd, μ, F, hE, hX⟩
  unfold wpL
  rw [wanted_none hgd, if_pos rfl]
  left
  obtain ⟨cargs, hrun, hA⟩ := run_call (w := w) (fun x => hE.ev x) h hp hr.1 o ho
  unfold Oper.wp
  rw [hrun]
  refine (hr.2 F w cargs hX.s.o.mem (demList hA hg)).mono ?_
  rintro e w' ⟨A, F', b, cur, ad, cap, rfl, hAs, h0, hn1, hm, ha, hrs, hb, h1, h2, h3, hbn, hblk, hle, hlen, hrel, hF⟩
  have hX' := hX.call hb h1 h2 h3
  have hl := Pm.le_add (μ := μ) (id := s.nx) (.ob b cur.size sz) (hX.s.o.fresh s.nx (Nat.le_refl _))
  have hS := hX'.s.add (o := ⟨ty, sz, 0, es⟩) (Nat.le_trans hX.s.o.base hbn) hblk hle hlen (fun i c j v p1 p2 => ⟨(hrel i c j v p1 p2).1.mono (Pm.le0 _) (fun _ _ q => q), (hrel i c j v p1 p2).2⟩)
    (fun {id q} hq {b' cs' sz'} hm' => by
      obtain ⟨b1, cs1, cur1, e1, _, e3, _⟩ := hX.s.o.obj id q hq
      rw [hm'] at e1; cases e1
      have := heap_lt e3; omega)
    (fun {id ty' sz' n} hid {a' m cap'} hm' hc' => by
      obtain ⟨cv, e1, _, e3⟩ := hX.s.t.tok id ty' sz' n hid
      rw [hm'] at e1; cases e1
      rcases e3 with ⟨_, _, e⟩ | ⟨b1, cap1, cur1, e4, _, _, _, _, e5, _⟩
      · cases e; omega
      · cases e4; have := heap_lt e5; simp only; omega)
    hF
  refine hn β _ w' (Rel.put (s := s) (hd.keep (keepsOthers_below hb)) (hE.mono hl h1) ?_ ⟨hS, hX'.fa, hX'.fb, hX'.m0.trans hl, hX'.f0, hX'.lo0, Nat.le_succ_of_le hX'.lo1, hX'.dzl⟩)
  refine .tup (by simpa using hAs) (fun j v hj => ?_)
  cases j with
  | zero =>
    simp only [List.getElem?_cons_zero, Option.some.injEq] at hj
    subst hj
    rw [h0]
    exact .row (Pm.add_same _ _ _) hn1 hm (fun hq => by obtain ⟨q1, q2⟩ := ha hq; exact ⟨by rw [q1, Nat.zero_mul], by rw [Nat.zero_add]; exact q2⟩)
  | succ j => exact (hrs j v (by simpa using hj)).mono (Pm.le0 _) (fun _ _ q => q)
theorem L_callr {ops : Array Oper} {O : Objs} {K : Toks} {nx d : Nat} {e : Env} {rest : List Oper} {ty' : TypeId} {pos : String} {after : Array Edge} {cl : Call} {f : FuncId} {ags bs : List AV} {c : Prop} {ty sz : Nat} {es : List (List AV)} {rs : List AV} (h : aCall (ev e) cl = some (c, f, ags)) (hd : Nat.blt d nt = true) (hc : c) (hb : ags.map demA = bs) (hg : bs.all grA = true) (hr : OkR P f bs ty sz es rs)
    (hn : WL P nt lo ops rest ⟨(d, .tup (.row nx 0 es.length :: rs)) :: e, (nx, some ⟨ty, sz, 0, es⟩) :: O, K, nx + 1⟩ Q) : WL P nt lo ops (⟨some d, .call cl, ty', pos, after, none⟩ :: rest) ⟨e, O, K, nx⟩ Q := by
  subst hb
  exact WL_callr rfl rfl h hc hg hr (by dsimp only; rw [wr_some hd]; exact hn)
end
end Go.AM
end
section
namespace Go.AM
open Go.RowKit
set_option linter.unusedVariables false
set_option linter.unusedSimpArgs false
section
variable {P : Program} {F : Mem} {μ : Pm} {T : Tab} {nt lo : Nat} {O : Objs} {K : Toks} {nx d : Nat} {e : Env} {rest : List Oper} {ops : Array Oper} {ty : TypeId} {pos : String} {after : Array Edge} {Q : Exit → St → Prop}
theorem L_inl (hT : Tab.Ok P T) {fn : Func} {f : FuncId} {code : Code} {n : Nat} {cl : Call} {c : Prop} {ags : List AV} {e' : Env} (hf : P.funcs[f]? = some fn) (hb : fn.body = some code) (hn : fn.ntmps = n) (h : aCall (ev e) cl = some (c, f, ags)) (he : enum 0 ags = e') (hd : Nat.blt d nt = true) (hc : c) (hnm : (fn.name == "runtime.NumGoroutine") = false) (hal : Nat.ble ags.length n = true)
    (hw : W P n nx code ⟨e', O, K, nx⟩ (EndsK T fn (fun v O' K' nx' => WL P nt lo ops rest ⟨(d, v) :: e, O', K', nx'⟩ Q))) : WL P nt lo ops (⟨some d, .call cl, ty, pos, after, none⟩ :: rest) ⟨e, O, K, nx⟩ Q := by
  subst hn he
  refine WL_inl rfl rfl h hc (Cal.of_W hT hf hb hnm (Nat.le_of_ble_eq_true hal) (hw.mono (fun ex s hq => ?_)))
  obtain ⟨hx, c, l, h1, h2, h3⟩ := hq
  exact ⟨hx, c, l, h1, h2, by dsimp only; rw [wr_some hd]; exact h3⟩
theorem endsW {fn : Func} {ex : Exit} {s : St} {c : Prop} {l : List AV} {v : AV} (hx : ex = .normal ∨ ex = .ret) (hl : resList T s fn.results.toList = some (c, l)) (hc : c) (hv : pack l = v) (h : WL P nt lo ops rest ⟨(d, v) :: e, s.O, s.K, s.nx⟩ Q) : EndsK T fn (fun v O' K' nx' => WL P nt lo ops rest ⟨(d, v) :: e, O', K', nx'⟩ Q) ex s := by
  subst hv
  exact ⟨hx, c, l, hl, hc, h⟩
/-- the ways through the body come to one state -/
theorem L_inlM (hT : Tab.Ok P T) (M : St) {fn : Func} {f : FuncId} {code : Code} {n : Nat} {cl : Call} {c : Prop} {ags : List AV} {e' : Env} (hf : P.funcs[f]? = some fn) (hb : fn.body = some code) (hn : fn.ntmps = n) (h : aCall (ev e) cl = some (c, f, ags)) (he : enum 0 ags = e') (hd : Nat.blt d nt = true) (hc : c) (hnm : (fn.name == "runtime.NumGoroutine") = false) (hal : Nat.ble ags.length n = true)
    (hw : W P n nx code ⟨e', O, K, nx⟩ (EndsK T fn (fun v O' K' nx' => St.le ⟨(d, v) :: e, O', K', nx'⟩ M lo nt))) (hr : WL P nt lo ops rest M Q) : WL P nt lo ops (⟨some d, .call cl, ty, pos, after, none⟩ :: rest) ⟨e, O, K, nx⟩ Q := by
  subst hn he
  refine WL_inl rfl rfl h hc (Cal.of_W hT hf hb hnm (Nat.le_of_ble_eq_true hal) (hw.mono (fun ex s hq => ?_)))
  obtain ⟨hx, c, l, h1, h2, h3⟩ := hq
  exact ⟨hx, c, l, h1, h2, by dsimp only; rw [wr_some hd]; exact WL.of_le h3 hr⟩
theorem endsM {fn : Func} {ex : Exit} {s : St} {M : St} {c : Prop} {l : List AV} {v : AV} (hx : ex = .normal ∨ ex = .ret) (hl : resList T s fn.results.toList = some (c, l)) (hc : c) (hv : pack l = v) (h : St.le ⟨(d, v) :: e, s.O, s.K, s.nx⟩ M lo nt) : EndsK T fn (fun v O' K' nx' => St.le ⟨(d, v) :: e, O', K', nx'⟩ M lo nt) ex s := by
  subst hv
  exact ⟨hx, c, l, hl, hc, h⟩
theorem ro_len {μ : Pm} {F : Mem} {l : List (List AV)} {cv : Value} (h : RelV F μ (.ro l) cv) : ∃ a cap, cv = .slice a l.length cap := by
  cases h with
  | ro0 => exact ⟨none, 0, rfl⟩
  | @ro _ _ b o cap sz' a f hz' hc hr hn hm ha => exact ⟨some a, cap, rfl⟩
theorem L_slice_to {Q : Exit → St → Prop} {ops : Array Oper} {rest : List Oper} {e : Env} {O : Objs} {K : Toks} {nx d : Nat} {ty : TypeId} {pos : String} {after : Array Edge} (hT : Tab.Ok P T) {t el sz : Nat} {x z : Operand} {l : List (List AV)} {kz : IntKind} {q : Int} (hx : strip (ev e x) = .ro l) (hz : strip (ev e z) = .int kz q)
    (hk : (T.at t).kind = .slice el) (hsz : (T.at el).size = sz) (hpos : Nat.blt 0 sz = true) (hl : ∀ c ∈ l, c.length = sz) (h1 : 0 ≤ q) (h2 : q ≤ l.length) (hs : sg (ev e x) ∧ sg (ev e z)) (hd : Nat.blt d nt = true)
    (hn : WL P nt lo ops rest ⟨(d, .ro (l.take q.toNat)) :: e, O, K, nx⟩ Q) : WL P nt lo ops (⟨some d, .slice t x none (some z) none, ty, pos, after, none⟩ :: rest) ⟨e, O, K, nx⟩ Q := by
  intro β a w ⟨hdm, μ, F, hE, hX⟩
  unfold wpL
  rw [wanted_none rfl, if_pos rfl]
  left
  have rx := (hE.ev x).strip hs.1
  have rz := (hE.ev z).strip hs.2
  dsimp only at rx rz
  rw [hx] at rx
  rw [hz] at rz
  obtain ⟨ti, hti, h3, _⟩ := hT.info (Tab.ne_none hk (by simp))
  rw [h3] at hk
  have hu := kind_slice hk
  have hpz : 0 < sz := by simpa [Nat.blt_eq] using hpos
  obtain ⟨ei, hei, _, hes, _⟩ := hT.info (t := el) (Tab.ne_none' (by omega))
  obtain ⟨ad, n, cap, hcv, hqc, hrel⟩ := ro_slice rx hl (p := 0) (q := q.toNat) (by omega) (by omega)
  generalize hcx : a.eval x = cx at rx hcv
  generalize hcz : a.eval z = cz at rz
  cases rz
  rw [List.drop_zero, Nat.sub_zero, Nat.sub_zero, Nat.zero_mul] at hrel
  subst hcv
  have hrun : (execOp a.eval ⟨some d, .slice t x none (some z) none, ty, pos, after, none⟩).run P w = .ok (.value (.slice (if cap = 0 then ad else ad.map (·.add 0)) q.toNat cap)) w := by
    have e1 : 0 ≤ q ∧ q ≤ (cap : Int) := by omega
    simp [execOp, hcx, hcz, Instr.sliceAt, Instr.slice, run_und hu, Instr.sliceBounds, Instr.sliceBound, asIntOf, e1, run_size hei, ← hes, hsz]
    all_goals (intro hh; exact absurd hh (by omega))
  unfold Oper.wp
  rw [hrun]
  exact hn β _ w (by have := Rel.put (s := ⟨e, O, K, nx⟩) (d := some d) hdm hE hrel hX; rwa [wr_some hd] at this)
theorem L_slice_from {Q : Exit → St → Prop} {ops : Array Oper} {rest : List Oper} {e : Env} {O : Objs} {K : Toks} {nx d : Nat} {ty : TypeId} {pos : String} {after : Array Edge} (hT : Tab.Ok P T) {t el sz : Nat} {x y : Operand} {l : List (List AV)} {ky : IntKind} {p : Int} (hx : strip (ev e x) = .ro l) (hy : strip (ev e y) = .int ky p)
    (hk : (T.at t).kind = .slice el) (hsz : (T.at el).size = sz) (hpos : Nat.blt 0 sz = true) (hl : ∀ c ∈ l, c.length = sz) (h0 : 0 ≤ p) (h2 : p ≤ l.length) (hs : sg (ev e x) ∧ sg (ev e y)) (hd : Nat.blt d nt = true)
    (hn : WL P nt lo ops rest ⟨(d, .ro (l.drop p.toNat)) :: e, O, K, nx⟩ Q) : WL P nt lo ops (⟨some d, .slice t x (some y) none none, ty, pos, after, none⟩ :: rest) ⟨e, O, K, nx⟩ Q := by
  intro β a w ⟨hdm, μ, F, hE, hX⟩
  unfold wpL
  rw [wanted_none rfl, if_pos rfl]
  left
  have rx := (hE.ev x).strip hs.1
  have ry := (hE.ev y).strip hs.2
  dsimp only at rx ry
  rw [hx] at rx
  rw [hy] at ry
  obtain ⟨ti, hti, h3, _⟩ := hT.info (Tab.ne_none hk (by simp))
  rw [h3] at hk
  have hu := kind_slice hk
  have hpz : 0 < sz := by simpa [Nat.blt_eq] using hpos
  obtain ⟨ei, hei, _, hes, _⟩ := hT.info (t := el) (Tab.ne_none' (by omega))
  have hlen := ro_len rx
  obtain ⟨ad, n, cap, hcv, hqc, hrel⟩ := ro_slice rx hl (p := p.toNat) (q := l.length) (by omega) (by omega)
  generalize hcx : a.eval x = cx at rx hcv
  generalize hcy : a.eval y = cy at ry
  cases ry
  subst hcv
  have hnl : n = l.length := by obtain ⟨a1, c1, h⟩ := hlen; rw [hcx] at h; cases h; rfl
  subst hnl
  rw [List.take_of_length_le (by simp)] at hrel
  have hrun : (execOp a.eval ⟨some d, .slice t x (some y) none none, ty, pos, after, none⟩).run P w = .ok (.value (.slice (if cap = p.toNat then ad else ad.map (·.add (p.toNat * sz))) (l.length - p.toNat) (cap - p.toNat))) w := by
    have e2 : 0 ≤ p ∧ p ≤ ((l.length : Nat) : Int) := by omega
    simp [execOp, hcx, hcy, Instr.sliceAt, Instr.slice, run_und hu, Instr.sliceBounds, Instr.sliceBound, asIntOf, e2, run_size hei, ← hes, hsz]
    all_goals (intro hh; exact absurd hh (by omega))
  unfold Oper.wp
  rw [hrun]
  exact hn β _ w (by have := Rel.put (s := ⟨e, O, K, nx⟩) (d := some d) hdm hE hrel hX; rwa [wr_some hd] at this)
end
end Go.AM
end
section
namespace Go.AM
open Go.RowKit
set_option linter.unusedVariables false
set_option linter.unusedSimpArgs false
section
variable {P : Program} {T : Tab} {nt lo : Nat} {s : St} {Q : Exit → St → Prop}
theorem stepR_scope' {P : Program} {b : Frame} {a : Act} {k : List Item} {cs : List Frame} {w : World} {c : Code} : step P (lone (b.atR a (.code (.scope c) :: k)) cs w) = .next (lone (b.atR a (.code c :: .inScope c :: k)) cs w) :=
  step_lone_go (by simp [stepG, stepG.exec, Frame.atR])
theorem stepR_inScope' {P : Program} {b : Frame} {a : Act} {k : List Item} {cs : List Frame} {w : World} {c : Code} : step P (lone (b.atR a (.inScope c :: k)) cs w) = .next (lone (b.atR a k) cs w) :=
  step_lone_go (by simp [stepG, stepG.exec, Frame.atR])
theorem W_label {l : Nat} (h : Q .normal s) : W P nt lo (.label l) s Q := fun β a w hr => wpIn_label ⟨s, h, hr⟩
theorem W_goto {l : Nat} (h : Q (.goto l) s) : W P nt lo (.goto l) s Q := fun β a w hr => wpIn_goto ⟨s, h, hr⟩
def jumpQ {ι : Type} (nt lo l : Nat) (I : ι → St) (ok : ι → Prop) (Q : Exit → St → Prop) : Exit → St → Prop
  | .goto l', s => l' = l ∧ ∃ i, ok i ∧ s.le (I i) lo nt
  | e, s => Q e s
theorem W_scope0 {c rest : Code} {ι : Type} (l : Nat) (I : ι → St) (m : ι → Nat) (hf : findLabel c l = some rest) (first : W P nt lo c s (jumpQ nt lo l I (fun _ => True) Q))
    (pass : ∀ i, W P nt lo rest (I i) (jumpQ nt lo l I (fun j => m j < m i) Q)) : W P nt lo (.scope c) s Q := fun β a w hr b k cs hro hb hrm => by
  have hg : gotoIn l (.inScope c :: k) = some (.code rest :: .inScope c :: k) := by simp [gotoIn, hf]
  have h0 : (lone (b.atR a (.code (.scope c) :: k)) cs w).fenced P (Fw β.lp) := fenced_calm hb hrm rfl
  have out : ∀ (mm : Machine) (e : Exit) (a₁ : Act) (w₁ : World), (∀ x, e ≠ .goto x) → ArrivesIn (Machine.fenced P (Fw β.lp)) P mm b (.inScope c :: k) cs e a₁ w₁ → ArrivesIn (Machine.fenced P (Fw β.lp)) P mm b k cs e a₁ w₁ := by
    intro mm e a₁ w₁ hn harr
    cases e with
    | normal => exact StepsIn.trans harr (.one (fenced_calm hb hrm rfl) stepR_inScope')
    | exit id =>
      have hx : exitTo id (.inScope c :: k) = exitTo id k := by simp [exitTo]
      exact ⟨fun k' hk => harr.1 k' (by rw [hx]; exact hk), fun hr' hk => harr.2 hr' (by rw [hx]; exact hk)⟩
    | goto x => exact absurd rfl (hn x)
    | ret => exact harr
    | panic ch => exact harr
    | outgrown => exact harr
  have key : ∀ n i a w, m i = n → Rel β nt lo (I i) a w → ∃ e a' w', (∃ s', Q e s' ∧ Rel β nt lo s' a' w') ∧ ArrivesIn (Machine.fenced P (Fw β.lp)) P (lone (b.atR a (.code rest :: .inScope c :: k)) cs w) b k cs e a' w' := by
    intro n
    induction n using Nat.strongRecOn with
    | _ n ih =>
      intro i a w hn hi
      obtain ⟨e, a₁, w₁, ⟨s', hq, hr1⟩, harr⟩ := pass i β a w hi b (.inScope c :: k) cs hro hb hrm
      cases e with
      | goto l' =>
        obtain ⟨rfl, j, hlt, hle⟩ := hq
        obtain ⟨e₂, a₂, w₂, hq₂, harr₂⟩ := ih (m j) (by omega) j a₁ w₁ rfl (hle β a₁ w₁ hr1)
        exact ⟨e₂, a₂, w₂, hq₂, .of_steps (harr.1 _ hg) harr₂⟩
      | normal => exact ⟨_, a₁, w₁, ⟨s', hq, hr1⟩, out _ _ _ _ (fun x hx => by cases hx) harr⟩
      | exit id => exact ⟨_, a₁, w₁, ⟨s', hq, hr1⟩, out _ _ _ _ (fun x hx => by cases hx) harr⟩
      | ret => exact ⟨_, a₁, w₁, ⟨s', hq, hr1⟩, out _ _ _ _ (fun x hx => by cases hx) harr⟩
      | panic ch => exact ⟨_, a₁, w₁, ⟨s', hq, hr1⟩, out _ _ _ _ (fun x hx => by cases hx) harr⟩
      | outgrown => exact ⟨_, a₁, w₁, ⟨s', hq, hr1⟩, out _ _ _ _ (fun x hx => by cases hx) harr⟩
  obtain ⟨e, a₁, w₁, ⟨s', hq, hr1⟩, harr⟩ := first β a w hr b (.inScope c :: k) cs hro hb hrm
  have one := StepsIn.one h0 (stepR_scope' (P := P) (b := b) (a := a) (k := k) (cs := cs) (w := w) (c := c))
  cases e with
  | goto l' =>
    obtain ⟨rfl, j, _, hle⟩ := hq
    obtain ⟨e₂, a₂, w₂, hq₂, harr₂⟩ := key _ j a₁ w₁ rfl (hle β a₁ w₁ hr1)
    exact ⟨e₂, a₂, w₂, hq₂, .of_steps one (.of_steps (harr.1 _ hg) harr₂)⟩
  | normal => exact ⟨_, a₁, w₁, ⟨s', hq, hr1⟩, .of_steps one (out _ _ _ _ (fun x hx => by cases hx) harr)⟩
  | exit id => exact ⟨_, a₁, w₁, ⟨s', hq, hr1⟩, .of_steps one (out _ _ _ _ (fun x hx => by cases hx) harr)⟩
  | ret => exact ⟨_, a₁, w₁, ⟨s', hq, hr1⟩, .of_steps one (out _ _ _ _ (fun x hx => by cases hx) harr)⟩
  | panic ch => exact ⟨_, a₁, w₁, ⟨s', hq, hr1⟩, .of_steps one (out _ _ _ _ (fun x hx => by cases hx) harr)⟩
  | outgrown => exact ⟨_, a₁, w₁, ⟨s', hq, hr1⟩, .of_steps one (out _ _ _ _ (fun x hx => by cases hx) harr)⟩
/-- a scope whose label stands on the way: what comes behind the label is gone through once -/
theorem W_scope {c r : Code} {ι : Type} (l : Nat) (I : ι → St) (m : ι → Nat) (hf : findLabel c l = some (.seq .skip r)) (pass : ∀ i, W P nt lo r (I i) (jumpQ nt lo l I (fun j => m j < m i) Q))
    (first : (∀ i s', St.le s' (I i) lo nt → W P nt lo (.seq (.label l) r) s' (jumpQ nt lo l I (fun _ => True) Q)) → W P nt lo c s (jumpQ nt lo l I (fun _ => True) Q)) : W P nt lo (.scope c) s Q := by
  have mono : ∀ {i : ι} {e : Exit} {s' : St}, jumpQ nt lo l I (fun j => m j < m i) Q e s' → jumpQ nt lo l I (fun _ => True) Q e s' := by
    intro i e s' h
    cases e with
    | goto l' => obtain ⟨h1, j, _, h3⟩ := h; exact ⟨h1, j, trivial, h3⟩
    | _ => exact h
  refine W_scope0 l I m hf (first fun i s' hl => ?_) (fun i => ?_)
  · refine W_seq (W_label ?_)
    exact (W.of_le hl (pass i)).mono (fun e s' h => mono h)
  · exact W_seq (W_skip (pass i))
theorem jump_end {ι : Type} {l : Nat} {I : ι → St} {ok : ι → Prop} (i : ι) (hk : ok i) (hl : s.le (I i) lo nt) : jumpQ nt lo l I ok Q (.goto l) s := ⟨rfl, i, hk, hl⟩
theorem pass_jump {ι : Type} {l id : Nat} {I : ι → St} {ok : ι → Prop} (h : Q (.exit id) s) : jumpQ nt lo l I ok Q (.exit id) s := h
theorem gpass_then {c : Code} {l : Nat} (h : Q (.goto l) s) : thenQ P nt lo c Q (.goto l) s := h
theorem gpass_once {c : Code} {l : Nat} (h : Q (.goto l) s) : onceQ P nt lo c Q (.goto l) s := h
theorem gpass_round {ι : Type} {I : ι → St} {m : ι → Nat} {i : ι} {l : Nat} (h : Q (.goto l) s) : roundQ nt lo I m i Q (.goto l) s := h
theorem gpass_for {I : Nat → St} {n k l : Nat} (h : Q (.goto l) s) : forQ nt lo I n k Q (.goto l) s := h
theorem gpass_le {l : Nat} {p : Prop} {M : St} (h : Q (.goto l) s) : LeQ nt lo p M Q (.goto l) s := h
theorem gpass_block {id l : Nat} (h : Q (.goto l) s) : blockQ id Q (.goto l) s := h
end
end Go.AM
end
section
namespace Go.AM
open Go.RowKit
set_option linter.unusedVariables false
set_option linter.unusedSimpArgs false
section
variable {P : Program} {T : Tab} {nt lo : Nat} {s : St} {Q : Exit → St → Prop}
theorem sub_cat {e : Env} : ∀ {a b : Env}, sub a e → sub b e → sub (a ++ b) e
  | [], _, _, h => h
  | _ :: _, _, ha, hb => ⟨ha.1, sub_cat ha.2 hb⟩
theorem subO_cat {O : Objs} : ∀ {a b : Objs}, subO a O → subO b O → subO (a ++ b) O
  | [], _, _, h => h
  | _ :: _, _, ha, hb => ⟨ha.1, subO_cat ha.2 hb⟩
theorem subK_cat {O : Toks} : ∀ {a b : Toks}, subK a O → subK b O → subK (a ++ b) O
  | [], _, _, h => h
  | _ :: _, _, ha, hb => ⟨ha.1, subK_cat ha.2 hb⟩
/-- a loop that counts: the slots and objects that change, and those that stay -/
theorem W_forE {c : Code} (n : Nat) (fe : Env) (ve : Nat → Env) (fo : Objs) (vo : Nat → Objs) (fk : Toks) (vk : Nat → Toks) (nx : Nat) (h0 : s.le ⟨ve 0 ++ fe, vo 0 ++ fo, vk 0 ++ fk, nx⟩ lo nt)
    (round : ∀ k, k ≤ n → W P nt lo c ⟨ve k ++ fe, vo k ++ fo, vk k ++ fk, nx⟩ (forQ nt lo (fun k => ⟨ve k ++ fe, vo k ++ fo, vk k ++ fk, nx⟩) n k Q)) : W P nt lo (.loop c) s Q := W_for n (fun k => ⟨ve k ++ fe, vo k ++ fo, vk k ++ fk, nx⟩) h0 round
theorem W_invE {c : Code} {ι : Type} (m : ι → Nat) (i0 : ι) (fe : Env) (ve : ι → Env) (fo : Objs) (vo : ι → Objs) (fk : Toks) (vk : ι → Toks) (nx : Nat) (h0 : s.le ⟨ve i0 ++ fe, vo i0 ++ fo, vk i0 ++ fk, nx⟩ lo nt)
    (round : ∀ i, W P nt lo c ⟨ve i ++ fe, vo i ++ fo, vk i ++ fk, nx⟩ (roundQ nt lo (fun i => ⟨ve i ++ fe, vo i ++ fo, vk i ++ fk, nx⟩) m i Q)) : W P nt lo (.loop c) s Q := W_inv (fun i => ⟨ve i ++ fe, vo i ++ fo, vk i ++ fk, nx⟩) m i0 h0 round
theorem V_forE {c : Code} {ic : Ic} (n : Nat) (fe : Env) (ve : Nat → Env) (fo : Objs) (vo : Nat → Objs) (fk : Toks) (vk : Nat → Toks) (nx : Nat) (h0 : s.le ⟨ve 0 ++ fe, vo 0 ++ fo, vk 0 ++ fk, nx⟩ 100 nt) {Q : Exit → Option Nat → St → Prop}
    (round : ∀ k, k ≤ n → V P ic nt c (some k) ⟨ve k ++ fe, vo k ++ fo, vk k ++ fk, nx⟩ (forV nt (fun k => ⟨ve k ++ fe, vo k ++ fo, vk k ++ fk, nx⟩) n k Q)) : V P ic nt (.loop c) (some 0) s Q := V_for n (fun k => ⟨ve k ++ fe, vo k ++ fo, vk k ++ fk, nx⟩) h0 round
/-- the same, with a fact that each round keeps -/
def forQF (nt lo : Nat) (I : Nat → St) (F : Nat → Prop) (n k : Nat) (Q : Exit → St → Prop) : Exit → St → Prop
  | .normal, s => k < n ∧ F (k + 1) ∧ s.le (I (k + 1)) lo nt
  | e, s => Q e s
theorem forF_end {I : Nat → St} {F : Nat → Prop} {n k : Nat} (hk : k < n) (hf : F (k + 1)) (hl : s.le (I (k + 1)) lo nt) : forQF nt lo I F n k Q .normal s := ⟨hk, hf, hl⟩
theorem pass_forF {I : Nat → St} {F : Nat → Prop} {n k id : Nat} (h : Q (.exit id) s) : forQF nt lo I F n k Q (.exit id) s := h
theorem gpass_forF {I : Nat → St} {F : Nat → Prop} {n k l : Nat} (h : Q (.goto l) s) : forQF nt lo I F n k Q (.goto l) s := h
theorem W_forEF {c : Code} (n : Nat) (F : Nat → Prop) (hF : F 0) (fe : Env) (ve : Nat → Env) (fo : Objs) (vo : Nat → Objs) (fk : Toks) (vk : Nat → Toks) (nx : Nat) (h0 : s.le ⟨ve 0 ++ fe, vo 0 ++ fo, vk 0 ++ fk, nx⟩ lo nt)
    (round : ∀ k, k ≤ n → F k → W P nt lo c ⟨ve k ++ fe, vo k ++ fo, vk k ++ fk, nx⟩ (forQF nt lo (fun k => ⟨ve k ++ fe, vo k ++ fo, vk k ++ fk, nx⟩) F n k Q)) : W P nt lo (.loop c) s Q := by
  refine W_inv (ι := {k : Nat // k ≤ n ∧ F k}) (fun i => ⟨ve i.1 ++ fe, vo i.1 ++ fo, vk i.1 ++ fk, nx⟩) (fun i => n - i.1) ⟨0, Nat.zero_le _, hF⟩ h0 (fun i => (round i.1 i.2.1 i.2.2).mono (fun e s' h => ?_))
  cases e with
  | normal => obtain ⟨h1, h2, h3⟩ := h; exact ⟨⟨i.1 + 1, h1, h2⟩, by dsimp only; omega, h3⟩
  | _ => exact h
/-- ways joined: what changes hangs on the condition -/
theorem W_ifB {c : Operand} {x y rest : Code} {b : Bool} (hc : ev s.e c = .bool b) (fe : Env) (ve : Bool → Env) (fo : Objs) (vo : Bool → Objs) (fk : Toks) (vk : Bool → Toks) (nx : Nat) (hfe : sub fe s.e) (hfo : subO fo s.O) (hfk : subK fk s.K)
    (ht : b = true → W P nt lo x s (LeQ nt lo True ⟨ve true ++ fe, vo true ++ fo, vk true ++ fk, nx⟩ Q)) (hf : b = false → W P nt lo y s (LeQ nt lo True ⟨ve false ++ fe, vo false ++ fo, vk false ++ fk, nx⟩ Q)) (hn : W P nt lo rest ⟨ve b ++ fe, vo b ++ fo, vk b ++ fk, nx⟩ Q) : W P nt lo (.seq (.cond c x y) rest) s Q := by
  refine W_if (p := True) (M := ⟨ve b ++ fe, vo b ++ fo, vk b ++ fk, nx⟩) hc (fun h => ?_) (fun h => ?_) (fun _ => hn)
  · subst h; exact ht rfl
  · subst h; exact hf rfl
theorem W_iftB {c : Operand} {x y rest : Code} {b : Bool} (hc : ev s.e c = .bool b) (fe : Env) (ve : Bool → Env) (fo : Objs) (vo : Bool → Objs) (fk : Toks) (vk : Bool → Toks) (nx : Nat) (hfe : sub fe s.e) (hfo : subO fo s.O) (hfk : subK fk s.K)
    (ht : b = true → W P nt lo x s (LeQ nt lo True ⟨ve true ++ fe, vo true ++ fo, vk true ++ fk, nx⟩ Q)) (hf : b = false → W P nt lo y s (LeQ nt lo True ⟨ve false ++ fe, vo false ++ fo, vk false ++ fk, nx⟩ Q)) (hn : W P nt lo rest ⟨ve b ++ fe, vo b ++ fo, vk b ++ fk, nx⟩ Q) : W P nt lo (.cond c x y) s (thenQ P nt lo rest Q) := by
  refine W_ift (p := True) (M := ⟨ve b ++ fe, vo b ++ fo, vk b ++ fk, nx⟩) hc (fun h => ?_) (fun h => ?_) (fun _ => hn)
  · subst h; exact ht rfl
  · subst h; exact hf rfl
end
end Go.AM
end
