/- What reads as data of a type is of the print's kind for that type: numbers, bools, strings, slices, structs, by the type's shape. -/
import Derived.Test.YthjfmgdldjbkgaaWMore
import Derived.SizedLaws
import Derived.ChangeSlices
import Derived.OpenShut
import Derived.WideShapes
import Derived.ChangeArms
namespace Go.Proofs.Ythjfmgdldjbkgaa.Opn
open Go.RowKit Go.ChangeShapes Go.WideShapes Go.Proofs.YthjfmgdldjbkgaaW.PrintWords

/-- What reads as data of type t is of the kind d and is well formed. -/
def Opn {α : Type} (P : Program) (t : TypeId) (d : Kd α) (wf : α → Prop) : Prop :=
  P.cellsOf t = d.sz ∧ ∀ (H : Type) (enc : TypeId × Value → H) (W : World) (base : Nat) (spare : Nat → Bool) (held : Bool) (fuel : Nat) (cs : List Value) (r : DataW H × List MemPlace),
    DataW.trod enc P W base spare held fuel t cs = some r → (∀ n ∈ r.1.weights P t, n ≤ reachBytes) → ∃ x, d.K W x cs ∧ wf x

theorem Opn.imp {α : Type} {P : Program} {t : TypeId} {d : Kd α} {wf wf' : α → Prop} (h : Opn P t d wf) (hi : ∀ x, wf x → wf' x) : Opn P t d wf' :=
  ⟨h.1, fun H enc W base spare held fuel cs r hr hw => by obtain ⟨x, hx, hy⟩ := h.2 H enc W base spare held fuel cs r hr hw; exact ⟨x, hx, hi x hy⟩⟩

theorem Opn.int {P : Program} {t : TypeId} {k : IntKind} (hu : P.underlying t = some (.int k)) (hc : P.cellsOf t = 1) : Opn P t (Kd.int k) (fun x => (Lit.int k x).wf = true) := by
  refine ⟨hc, fun H enc W base spare held fuel cs r hr hw => ?_⟩
  obtain ⟨m, rfl, h1, h2⟩ := DataW.trod_int hu hr
  first | exact ⟨_, h1, h2⟩ | (obtain ⟨rfl, h3⟩ := h1; exact ⟨_, rfl, h2⟩)
theorem Opn.bool {P : Program} {t : TypeId} (hu : P.underlying t = some .bool) (hc : P.cellsOf t = 1) : Opn P t Kd.bool (fun _ => True) := by
  refine ⟨hc, fun H enc W base spare held fuel cs r hr hw => ?_⟩
  obtain ⟨b, rfl, _⟩ := DataW.trod_bool hu hr
  exact ⟨b, rfl, trivial⟩

theorem weightsAll_mem {H : Type} {P : Program} {e : TypeId} : ∀ {ds : List (DataW H)} {d : DataW H}, d ∈ ds → ∀ n ∈ d.weights P e, n ∈ DataW.weightsAll P e ds
  | d0 :: ds, d, hd, n, hn => by
    simp only [DataW.weightsAll, List.mem_append]
    rcases List.mem_cons.1 hd with rfl | hd
    · exact .inl hn
    · exact .inr (weightsAll_mem hd n hn)

theorem list_choice {α : Type} {Q : Nat → α → Prop} : ∀ (n : Nat), (∀ i, i < n → ∃ x, Q i x) → ∃ xs : List α, xs.length = n ∧ ∀ i x, xs[i]? = some x → Q i x
  | 0, _ => ⟨[], rfl, fun i x h => by simp at h⟩
  | n + 1, h => by
    obtain ⟨xs, hl, hx⟩ := list_choice n (fun i hi => h i (by omega))
    obtain ⟨y, hy⟩ := h n (by omega)
    refine ⟨xs ++ [y], by simp [hl], fun i x hi => ?_⟩
    by_cases hlt : i < n
    · rw [List.getElem?_append_left (by omega)] at hi
      exact hx i x hi
    · rw [List.getElem?_append_right (by omega), hl] at hi
      have e : i = n := by
        have := (List.getElem?_eq_some_iff.1 hi).1
        simp at this; omega
      subst e
      simp at hi
      subst hi
      exact hy

theorem Opn.slice {α : Type} {P : Program} {t e : TypeId} {d : Kd α} {wf : α → Prop} {B : Nat} (hu : P.underlying t = some (.slice e)) (hc : P.cellsOf t = 1) (hB : P.bytesOf e = B) (h : Opn P e d wf) :
    Opn P t (Kd.slice e d) (fun xs => xs.length * B ≤ reachBytes ∧ ∀ x ∈ xs, wf x) := by
  refine ⟨hc, fun H enc W base spare held fuel cs r hr hw => ?_⟩
  rcases DataW.trod_slice hu hr with ⟨rfl, rfl⟩ | ⟨a, len, cap, elems, rest, n, rfl, rfl, rfl, hb, hl, hm, hlen, hel, hsp, hns⟩
  · exact ⟨[], ⟨none, 0, rfl, by simp, by simp [Kd.C, ReadsRow]⟩, by simp, by simp⟩
  · have hw' : ∀ n ∈ ((elems.map (·.1)).length + (rest.map (·.1)).length) * P.bytesOf e :: (DataW.weightsAll P e (elems.map (·.1)) ++ DataW.weightsAll P e (rest.map (·.1))), n ≤ reachBytes := by
      intro n hn
      exact hw n (by simp only [DataW.weights, hu]; exact hn)
    obtain ⟨xs, hxl, hx⟩ := list_choice (Q := fun i x => ∃ c, c.length = d.sz ∧ d.K W x c ∧ wf x ∧ ∀ j u, c[j]? = some u → W.cell? (a.add (i * d.sz + j)) = some u) len (fun i hi => by
      have h1 := hel i hi
      have hlt : i < elems.length := by omega
      rw [List.getElem?_eq_getElem hlt, Option.bind_eq_some_iff] at h1
      obtain ⟨c, hcs, hy⟩ := h1
      obtain ⟨hb1, hc1, hcell⟩ := World.cells?_some hcs
      obtain ⟨x, hk, hwf⟩ := h.2 H enc W base spare held n c _ hy (fun m hm => hw' m (by
        refine List.mem_cons_of_mem _ (List.mem_append.2 (.inl (weightsAll_mem (List.mem_map_of_mem (List.getElem_mem hlt)) m hm)))))
      refine ⟨x, c, d.K_len hk, hk, hwf, fun j u hu' => ?_⟩
      have hj : j < P.cellsOf e := by
        have := (List.getElem?_eq_some_iff.1 hu').1
        omega
      have := hcell j hj
      rw [Addr.add_add, h.1] at this
      rw [this]; exact hu')
    refine ⟨xs, ⟨some a, cap, by rw [hxl], by omega, ⟨rfl, ?_, fun _ => ⟨a, rfl, fun j p hp => ?_⟩⟩⟩, ?_, ?_⟩
    · have : maxLen = 9223372036854775807 := rfl
      omega
    · obtain ⟨c, h1, h2, h3, h4⟩ := hx j p hp
      exact ⟨c, h1, h2, h4⟩
    · have h1 := hw' _ (List.mem_cons_self)
      rw [hB] at h1
      refine Nat.le_trans (Nat.mul_le_mul_right B ?_) h1
      simp only [List.length_map]; omega
    · intro x hxm
      obtain ⟨j, hj⟩ := List.getElem?_of_mem hxm
      obtain ⟨c, h1, h2, h3, h4⟩ := hx j x hj
      exact h3

/-- Fields in line, from an offset on. -/
def Flds {α : Type} (P : Program) (fs : List Field) (off : Nat) (d : Kd α) (wf : α → Prop) : Prop :=
  ∀ (H : Type) (enc : TypeId × Value → H) (W : World) (base : Nat) (spare : Nat → Bool) (held : Bool) (fuel : Nat) (cs : List Value) (xs : List (DataW H × List MemPlace)),
    cs.length = off + d.sz → xs.length = fs.length → (∀ (i : Nat) (f : Field), fs[i]? = some f → DataW.trod enc P W base spare held fuel f.type ((cs.drop f.offset).take (P.cellsOf f.type)) = xs[i]?) →
    (∀ n ∈ DataW.weightsEach P (fs.map (·.type)) (xs.map (·.1)), n ≤ reachBytes) → ∃ x, d.K W x (cs.drop off) ∧ wf x
theorem Flds.one {α : Type} {P : Program} {f : Field} {off : Nat} {d : Kd α} {wf : α → Prop} (ho : f.offset = off) (h : Opn P f.type d wf) : Flds P [f] off d wf := by
  intro H enc W base spare held fuel cs xs hcs hxs hf hw
  obtain ⟨y, rfl⟩ : ∃ y, xs = [y] := List.length_eq_one_iff.1 hxs
  have h1 := hf 0 f rfl
  rw [ho, h.1, List.take_of_length_le (by simp [hcs])] at h1
  exact h.2 H enc W base spare held fuel _ y h1 (fun n hn => hw n (by simp only [List.map_cons, List.map_nil, DataW.weightsEach, List.append_nil]; exact hn))
theorem Flds.cons {α β : Type} {P : Program} {f : Field} {fs : List Field} {off : Nat} {d : Kd α} {d' : Kd β} {wf : α → Prop} {wf' : β → Prop} (ho : f.offset = off) (h : Opn P f.type d wf) (hs : Flds P fs (off + d.sz) d' wf') :
    Flds P (f :: fs) off (Kd.pair d d') (fun x => wf x.1 ∧ wf' x.2) := by
  intro H enc W base spare held fuel cs xs hcs hxs hf hw
  cases xs with
  | nil => simp at hxs
  | cons y ys =>
  have hsz : (Kd.pair d d').sz = d.sz + d'.sz := rfl
  rw [hsz] at hcs
  have h1 := hf 0 f rfl
  rw [ho, h.1] at h1
  obtain ⟨x, hx, hwx⟩ := h.2 H enc W base spare held fuel _ y h1 (fun n hn => hw n (by simp only [List.map_cons, DataW.weightsEach, List.mem_append]; exact .inl hn))
  obtain ⟨z, hz, hwz⟩ := hs H enc W base spare held fuel cs ys (by omega) (by simpa using hxs) (fun i g hg => by have := hf (i + 1) g (by simpa using hg); simpa using this)
    (fun n hn => hw n (by simp only [List.map_cons, DataW.weightsEach, List.mem_append]; exact .inr hn))
  refine ⟨(x, z), ⟨(cs.drop off).take d.sz, cs.drop (off + d.sz), ?_, hx, hz⟩, hwx, hwz⟩
  rw [← List.drop_drop]
  exact (List.take_append_drop _ _).symm
theorem Opn.struct {α : Type} {P : Program} {t : TypeId} {fs : Array Field} {d : Kd α} {wf : α → Prop} (hu : P.underlying t = some (.struct fs)) (hc : P.cellsOf t = d.sz) (h : Flds P fs.toList 0 d wf) : Opn P t d wf := by
  refine ⟨hc, fun H enc W base spare held fuel cs r hr hw => ?_⟩
  obtain ⟨xs, n, rfl, rfl, hl, hx, hf⟩ := DataW.trod_struct hu hr
  have := h H enc W base spare held n cs xs (by omega) (by simpa using hx) (fun i f hi => hf i f (by simpa using hi)) (fun m hm => hw m (by simp only [DataW.weights, hu]; exact hm))
  simpa using this
theorem Opn.iso {α β : Type} {P : Program} {t : TypeId} {d : Kd α} {wf : α → Prop} (proj : β → α) (mk : α → β) (hm : ∀ x, proj (mk x) = x) (h : Opn P t d wf) : Opn P t (Kd.iso d proj) (fun y => wf (proj y)) := by
  refine ⟨h.1, fun H enc W base spare held fuel cs r hr hw => ?_⟩
  obtain ⟨x, hx, hwx⟩ := h.2 H enc W base spare held fuel cs r hr hw
  exact ⟨mk x, by show d.K W (proj (mk x)) cs; rw [hm]; exact hx, by show wf (proj (mk x)); rw [hm]; exact hwx⟩

/-- A law's argument, opened. -/
theorem Opn.arg {α : Type} {P : Program} {t : TypeId} {d : Kd α} {wf : α → Prop} (h : Opn P t d wf) {H : Type} {enc : TypeId × Value → H} {W : World} {base : Nat} {spare : Nat → Bool} {held : Bool} {v : Value} {x : DataW H} {ps : List MemPlace}
    (ht : DataW.Trod enc P W base spare held t v x ps) {ts : List TypeId} {ds : List (DataW H)} {j : Nat} (hsz : (DataW.weightsEach P ts ds).all (· ≤ reachBytes) = true) (hj : ts[j]? = some t) (hd : ds[j]? = some x) :
    ∃ y, d.K W y v.cells.toList ∧ wf y := by
  obtain ⟨fuel, hf⟩ := ht
  exact h.2 H enc W base spare held fuel _ _ hf (fun n hn => by simpa using List.all_eq_true.1 hsz n (DataW.weights_mem_each hj hd n hn))
theorem okWide_agg {P : Program} {W : World} {r : Reach} {b : Nat} {t : TypeId} {v : Value} {fs : Array Field} (hu : P.underlying t = some (.struct fs)) (h : Value.okWide P W r b t v) : ∃ cs, v = .agg cs := by
  unfold Value.okWide at h
  rw [hu] at h
  obtain ⟨cs, rfl, _⟩ := h
  exact ⟨cs, rfl⟩
end Go.Proofs.Ythjfmgdldjbkgaa.Opn
