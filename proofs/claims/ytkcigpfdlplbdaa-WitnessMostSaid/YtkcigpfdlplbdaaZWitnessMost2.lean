/- The law WitnessMost answers true, whatever its arguments: part 3 of 6 of its proof (the machine on trees, the functions' contracts). -/

import Derived.Test.YtkcigpfdlplbdaaZWitnessMost1
section
namespace Go.AM
open Go.RowKit Go.Proofs
set_option linter.unusedVariables false
set_option linter.unusedSimpArgs false
section
variable {nt lo : Nat} {ops : Array Oper} {O Om : Objs} {K : Toks} {nx : Nat} {Q : Exit → St → Prop} {G : Env → Prop} {e : Env} {rest : List Oper} {op : Op} {ty : TypeId} {pos : String} {after : Array Edge} {c : Prop} {d : Nat} {k : IntKind} {n i j m : Nat} {z : Int} {b : Bool} {ll : List (List AV)} {f : FuncId} {fs cs : List AV} {v : AV} {s : St} {x y : Code} {dj q : Nat} {w g : Bool}
theorem zLI (hn : WL Try.prog nt lo ops rest ⟨(d, (.int k z)) :: e, O, K, nx⟩ Q) (h : ave Tb O (ev e) op = some (c, (.int k z)) := by exact rfl) (hc : c := by first | exact ⟨trivial, trivial⟩ | exact ⟨trivial, rfl⟩ | exact ⟨trivial, True.intro⟩) (hd : Nat.blt d nt = true := by exact rfl) : WL Try.prog nt lo ops (⟨some d, op, ty, pos, after, none⟩ :: rest) ⟨e, O, K, nx⟩ Q := L_v Tb_ok (av h hc) hd hn
theorem zgLI (hn : WL Try.prog nt lo ops rest ⟨(d, .gd g (.int k z)) :: e, O, K, nx⟩ Q) (hj : (ops[q]?).bind (·.dst) = some dj := by exact rfl) (hg : gcond w (get e dj) = some g := by exact rfl) (h : g = true → Av Tb O (ev e) op (.int k z) := by intro hg; refine av rfl ?_; repeat' (first | exact trivial | exact hg | exact rfl | refine And.intro ?_ ?_ | (simp_all; done) | (simp at hg ⊢; simp [hg]; done))) (hd : Nat.blt d nt = true := by exact rfl) (hdj : Nat.blt dj nt = true := by exact rfl) : WL Try.prog nt lo ops (⟨some d, op, ty, pos, after, some (q, w)⟩ :: rest) ⟨e, O, K, nx⟩ Q := L_g Tb_ok hj hg h hd hdj hn
theorem zLB (hn : WL Try.prog nt lo ops rest ⟨(d, (.bool b)) :: e, O, K, nx⟩ Q) (h : ave Tb O (ev e) op = some (c, (.bool b)) := by exact rfl) (hc : c := by first | exact ⟨trivial, trivial⟩ | exact ⟨trivial, rfl⟩ | exact ⟨trivial, True.intro⟩) (hd : Nat.blt d nt = true := by exact rfl) : WL Try.prog nt lo ops (⟨some d, op, ty, pos, after, none⟩ :: rest) ⟨e, O, K, nx⟩ Q := L_v Tb_ok (av h hc) hd hn
theorem zgLB (hn : WL Try.prog nt lo ops rest ⟨(d, .gd g (.bool b)) :: e, O, K, nx⟩ Q) (hj : (ops[q]?).bind (·.dst) = some dj := by exact rfl) (hg : gcond w (get e dj) = some g := by exact rfl) (h : g = true → Av Tb O (ev e) op (.bool b) := by intro hg; refine av rfl ?_; repeat' (first | exact trivial | exact hg | exact rfl | refine And.intro ?_ ?_ | (simp_all; done) | (simp at hg ⊢; simp [hg]; done))) (hd : Nat.blt d nt = true := by exact rfl) (hdj : Nat.blt dj nt = true := by exact rfl) : WL Try.prog nt lo ops (⟨some d, op, ty, pos, after, some (q, w)⟩ :: rest) ⟨e, O, K, nx⟩ Q := L_g Tb_ok hj hg h hd hdj hn
theorem zLP (hn : WL Try.prog nt lo ops rest ⟨(d, (.ptr n i j)) :: e, O, K, nx⟩ Q) (h : ave Tb O (ev e) op = some (c, (.ptr n i j)) := by exact rfl) (hc : c := by first | exact ⟨trivial, trivial⟩ | exact ⟨trivial, rfl⟩ | exact ⟨trivial, True.intro⟩) (hd : Nat.blt d nt = true := by exact rfl) : WL Try.prog nt lo ops (⟨some d, op, ty, pos, after, none⟩ :: rest) ⟨e, O, K, nx⟩ Q := L_v Tb_ok (av h hc) hd hn
theorem zgLP (hn : WL Try.prog nt lo ops rest ⟨(d, .gd g (.ptr n i j)) :: e, O, K, nx⟩ Q) (hj : (ops[q]?).bind (·.dst) = some dj := by exact rfl) (hg : gcond w (get e dj) = some g := by exact rfl) (h : g = true → Av Tb O (ev e) op (.ptr n i j) := by intro hg; refine av rfl ?_; repeat' (first | exact trivial | exact hg | exact rfl | refine And.intro ?_ ?_ | (simp_all; done) | (simp at hg ⊢; simp [hg]; done))) (hd : Nat.blt d nt = true := by exact rfl) (hdj : Nat.blt dj nt = true := by exact rfl) : WL Try.prog nt lo ops (⟨some d, op, ty, pos, after, some (q, w)⟩ :: rest) ⟨e, O, K, nx⟩ Q := L_g Tb_ok hj hg h hd hdj hn
theorem zLQ {l : List AV} (hn : WL Try.prog nt lo ops rest ⟨(d, (.rptr l)) :: e, O, K, nx⟩ Q) (h : ave Tb O (ev e) op = some (c, (.rptr l)) := by exact rfl) (hc : c := by first | exact ⟨trivial, trivial⟩ | exact ⟨trivial, rfl⟩ | exact ⟨trivial, True.intro⟩) (hd : Nat.blt d nt = true := by exact rfl) : WL Try.prog nt lo ops (⟨some d, op, ty, pos, after, none⟩ :: rest) ⟨e, O, K, nx⟩ Q := L_v Tb_ok (av h hc) hd hn
theorem zgLQ {l : List AV} (hn : WL Try.prog nt lo ops rest ⟨(d, .gd g (.rptr l)) :: e, O, K, nx⟩ Q) (hj : (ops[q]?).bind (·.dst) = some dj := by exact rfl) (hg : gcond w (get e dj) = some g := by exact rfl) (h : g = true → Av Tb O (ev e) op (.rptr l) := by intro hg; refine av rfl ?_; repeat' (first | exact trivial | exact hg | exact rfl | refine And.intro ?_ ?_ | (simp_all; done) | (simp at hg ⊢; simp [hg]; done))) (hd : Nat.blt d nt = true := by exact rfl) (hdj : Nat.blt dj nt = true := by exact rfl) : WL Try.prog nt lo ops (⟨some d, op, ty, pos, after, some (q, w)⟩ :: rest) ⟨e, O, K, nx⟩ Q := L_g Tb_ok hj hg h hd hdj hn
theorem zLO (hn : WL Try.prog nt lo ops rest ⟨(d, (.ro ll)) :: e, O, K, nx⟩ Q) (h : ave Tb O (ev e) op = some (c, (.ro ll)) := by exact rfl) (hc : c := by first | exact ⟨trivial, trivial⟩ | exact ⟨trivial, rfl⟩ | exact ⟨trivial, True.intro⟩) (hd : Nat.blt d nt = true := by exact rfl) : WL Try.prog nt lo ops (⟨some d, op, ty, pos, after, none⟩ :: rest) ⟨e, O, K, nx⟩ Q := L_v Tb_ok (av h hc) hd hn
theorem zgLO (hn : WL Try.prog nt lo ops rest ⟨(d, .gd g (.ro ll)) :: e, O, K, nx⟩ Q) (hj : (ops[q]?).bind (·.dst) = some dj := by exact rfl) (hg : gcond w (get e dj) = some g := by exact rfl) (h : g = true → Av Tb O (ev e) op (.ro ll) := by intro hg; refine av rfl ?_; repeat' (first | exact trivial | exact hg | exact rfl | refine And.intro ?_ ?_ | (simp_all; done) | (simp at hg ⊢; simp [hg]; done))) (hd : Nat.blt d nt = true := by exact rfl) (hdj : Nat.blt dj nt = true := by exact rfl) : WL Try.prog nt lo ops (⟨some d, op, ty, pos, after, some (q, w)⟩ :: rest) ⟨e, O, K, nx⟩ Q := L_g Tb_ok hj hg h hd hdj hn
theorem zLA (hn : WL Try.prog nt lo ops rest ⟨(d, (.app n ll)) :: e, O, K, nx⟩ Q) (h : ave Tb O (ev e) op = some (c, (.app n ll)) := by exact rfl) (hc : c := by first | exact ⟨trivial, trivial⟩ | exact ⟨trivial, rfl⟩ | exact ⟨trivial, True.intro⟩) (hd : Nat.blt d nt = true := by exact rfl) : WL Try.prog nt lo ops (⟨some d, op, ty, pos, after, none⟩ :: rest) ⟨e, O, K, nx⟩ Q := L_v Tb_ok (av h hc) hd hn
theorem zgLA (hn : WL Try.prog nt lo ops rest ⟨(d, .gd g (.app n ll)) :: e, O, K, nx⟩ Q) (hj : (ops[q]?).bind (·.dst) = some dj := by exact rfl) (hg : gcond w (get e dj) = some g := by exact rfl) (h : g = true → Av Tb O (ev e) op (.app n ll) := by intro hg; refine av rfl ?_; repeat' (first | exact trivial | exact hg | exact rfl | refine And.intro ?_ ?_ | (simp_all; done) | (simp at hg ⊢; simp [hg]; done))) (hd : Nat.blt d nt = true := by exact rfl) (hdj : Nat.blt dj nt = true := by exact rfl) : WL Try.prog nt lo ops (⟨some d, op, ty, pos, after, some (q, w)⟩ :: rest) ⟨e, O, K, nx⟩ Q := L_g Tb_ok hj hg h hd hdj hn
theorem zLW (hn : WL Try.prog nt lo ops rest ⟨(d, (.row n i j)) :: e, O, K, nx⟩ Q) (h : ave Tb O (ev e) op = some (c, (.row n i j)) := by exact rfl) (hc : c := by first | exact ⟨trivial, trivial⟩ | exact ⟨trivial, rfl⟩ | exact ⟨trivial, True.intro⟩) (hd : Nat.blt d nt = true := by exact rfl) : WL Try.prog nt lo ops (⟨some d, op, ty, pos, after, none⟩ :: rest) ⟨e, O, K, nx⟩ Q := L_v Tb_ok (av h hc) hd hn
theorem zgLW (hn : WL Try.prog nt lo ops rest ⟨(d, .gd g (.row n i j)) :: e, O, K, nx⟩ Q) (hj : (ops[q]?).bind (·.dst) = some dj := by exact rfl) (hg : gcond w (get e dj) = some g := by exact rfl) (h : g = true → Av Tb O (ev e) op (.row n i j) := by intro hg; refine av rfl ?_; repeat' (first | exact trivial | exact hg | exact rfl | refine And.intro ?_ ?_ | (simp_all; done) | (simp at hg ⊢; simp [hg]; done))) (hd : Nat.blt d nt = true := by exact rfl) (hdj : Nat.blt dj nt = true := by exact rfl) : WL Try.prog nt lo ops (⟨some d, op, ty, pos, after, some (q, w)⟩ :: rest) ⟨e, O, K, nx⟩ Q := L_g Tb_ok hj hg h hd hdj hn
theorem zLN (hn : WL Try.prog nt lo ops rest ⟨(d, .nils) :: e, O, K, nx⟩ Q) (h : ave Tb O (ev e) op = some (c, .nils) := by exact rfl) (hc : c := by first | exact ⟨trivial, trivial⟩ | exact ⟨trivial, rfl⟩ | exact ⟨trivial, True.intro⟩) (hd : Nat.blt d nt = true := by exact rfl) : WL Try.prog nt lo ops (⟨some d, op, ty, pos, after, none⟩ :: rest) ⟨e, O, K, nx⟩ Q := L_v Tb_ok (av h hc) hd hn
theorem zgLN (hn : WL Try.prog nt lo ops rest ⟨(d, .gd g .nils) :: e, O, K, nx⟩ Q) (hj : (ops[q]?).bind (·.dst) = some dj := by exact rfl) (hg : gcond w (get e dj) = some g := by exact rfl) (h : g = true → Av Tb O (ev e) op .nils := by intro hg; refine av rfl ?_; repeat' (first | exact trivial | exact hg | exact rfl | refine And.intro ?_ ?_ | (simp_all; done) | (simp at hg ⊢; simp [hg]; done))) (hd : Nat.blt d nt = true := by exact rfl) (hdj : Nat.blt dj nt = true := by exact rfl) : WL Try.prog nt lo ops (⟨some d, op, ty, pos, after, some (q, w)⟩ :: rest) ⟨e, O, K, nx⟩ Q := L_g Tb_ok hj hg h hd hdj hn
theorem zLZ (hn : WL Try.prog nt lo ops rest ⟨(d, .nilp) :: e, O, K, nx⟩ Q) (h : ave Tb O (ev e) op = some (c, .nilp) := by exact rfl) (hc : c := by first | exact ⟨trivial, trivial⟩ | exact ⟨trivial, rfl⟩ | exact ⟨trivial, True.intro⟩) (hd : Nat.blt d nt = true := by exact rfl) : WL Try.prog nt lo ops (⟨some d, op, ty, pos, after, none⟩ :: rest) ⟨e, O, K, nx⟩ Q := L_v Tb_ok (av h hc) hd hn
theorem zgLZ (hn : WL Try.prog nt lo ops rest ⟨(d, .gd g .nilp) :: e, O, K, nx⟩ Q) (hj : (ops[q]?).bind (·.dst) = some dj := by exact rfl) (hg : gcond w (get e dj) = some g := by exact rfl) (h : g = true → Av Tb O (ev e) op .nilp := by intro hg; refine av rfl ?_; repeat' (first | exact trivial | exact hg | exact rfl | refine And.intro ?_ ?_ | (simp_all; done) | (simp at hg ⊢; simp [hg]; done))) (hd : Nat.blt d nt = true := by exact rfl) (hdj : Nat.blt dj nt = true := by exact rfl) : WL Try.prog nt lo ops (⟨some d, op, ty, pos, after, some (q, w)⟩ :: rest) ⟨e, O, K, nx⟩ Q := L_g Tb_ok hj hg h hd hdj hn
theorem zLF (hn : WL Try.prog nt lo ops rest ⟨(d, (.fn f fs cs)) :: e, O, K, nx⟩ Q) (h : ave Tb O (ev e) op = some (c, (.fn f fs cs)) := by exact rfl) (hc : c := by first | exact ⟨trivial, trivial⟩ | exact ⟨trivial, rfl⟩ | exact ⟨trivial, True.intro⟩) (hd : Nat.blt d nt = true := by exact rfl) : WL Try.prog nt lo ops (⟨some d, op, ty, pos, after, none⟩ :: rest) ⟨e, O, K, nx⟩ Q := L_v Tb_ok (av h hc) hd hn
theorem zgLF (hn : WL Try.prog nt lo ops rest ⟨(d, .gd g (.fn f fs cs)) :: e, O, K, nx⟩ Q) (hj : (ops[q]?).bind (·.dst) = some dj := by exact rfl) (hg : gcond w (get e dj) = some g := by exact rfl) (h : g = true → Av Tb O (ev e) op (.fn f fs cs) := by intro hg; refine av rfl ?_; repeat' (first | exact trivial | exact hg | exact rfl | refine And.intro ?_ ?_ | (simp_all; done) | (simp at hg ⊢; simp [hg]; done))) (hd : Nat.blt d nt = true := by exact rfl) (hdj : Nat.blt dj nt = true := by exact rfl) : WL Try.prog nt lo ops (⟨some d, op, ty, pos, after, some (q, w)⟩ :: rest) ⟨e, O, K, nx⟩ Q := L_g Tb_ok hj hg h hd hdj hn
theorem zLY (hn : WL Try.prog nt lo ops rest ⟨(d, (.yl n)) :: e, O, K, nx⟩ Q) (h : ave Tb O (ev e) op = some (c, (.yl n)) := by exact rfl) (hc : c := by first | exact ⟨trivial, trivial⟩ | exact ⟨trivial, rfl⟩ | exact ⟨trivial, True.intro⟩) (hd : Nat.blt d nt = true := by exact rfl) : WL Try.prog nt lo ops (⟨some d, op, ty, pos, after, none⟩ :: rest) ⟨e, O, K, nx⟩ Q := L_v Tb_ok (av h hc) hd hn
theorem zgLY (hn : WL Try.prog nt lo ops rest ⟨(d, .gd g (.yl n)) :: e, O, K, nx⟩ Q) (hj : (ops[q]?).bind (·.dst) = some dj := by exact rfl) (hg : gcond w (get e dj) = some g := by exact rfl) (h : g = true → Av Tb O (ev e) op (.yl n) := by intro hg; refine av rfl ?_; repeat' (first | exact trivial | exact hg | exact rfl | refine And.intro ?_ ?_ | (simp_all; done) | (simp at hg ⊢; simp [hg]; done))) (hd : Nat.blt d nt = true := by exact rfl) (hdj : Nat.blt dj nt = true := by exact rfl) : WL Try.prog nt lo ops (⟨some d, op, ty, pos, after, some (q, w)⟩ :: rest) ⟨e, O, K, nx⟩ Q := L_g Tb_ok hj hg h hd hdj hn
theorem zLU (hn : WL Try.prog nt lo ops rest ⟨(d, v) :: e, O, K, nx⟩ Q) (h : ave Tb O (ev e) op = some (c, v) := by exact rfl) (hc : c := by first | exact ⟨trivial, trivial⟩ | exact ⟨trivial, rfl⟩ | exact ⟨trivial, True.intro⟩) (hd : Nat.blt d nt = true := by exact rfl) : WL Try.prog nt lo ops (⟨some d, op, ty, pos, after, none⟩ :: rest) ⟨e, O, K, nx⟩ Q := L_v Tb_ok (av h hc) hd hn
theorem zgLU (hn : WL Try.prog nt lo ops rest ⟨(d, .gd g v) :: e, O, K, nx⟩ Q) (hj : (ops[q]?).bind (·.dst) = some dj := by exact rfl) (hg : gcond w (get e dj) = some g := by exact rfl) (h : g = true → Av Tb O (ev e) op v := by intro hg; refine av rfl ?_; repeat' (first | exact trivial | exact hg | exact rfl | refine And.intro ?_ ?_ | (simp_all; done) | (simp at hg ⊢; simp [hg]; done))) (hd : Nat.blt d nt = true := by exact rfl) (hdj : Nat.blt dj nt = true := by exact rfl) : WL Try.prog nt lo ops (⟨some d, op, ty, pos, after, some (q, w)⟩ :: rest) ⟨e, O, K, nx⟩ Q := L_g Tb_ok hj hg h hd hdj hn
theorem zLG (l : List AV) (hn : WL Try.prog nt lo ops rest ⟨(d, (.agg l)) :: e, O, K, nx⟩ Q) (h : ave Tb O (ev e) op = some (c, (.agg l)) := by exact rfl) (hc : c := by first | exact ⟨trivial, trivial⟩ | exact ⟨trivial, rfl⟩ | exact ⟨trivial, True.intro⟩) (hd : Nat.blt d nt = true := by exact rfl) : WL Try.prog nt lo ops (⟨some d, op, ty, pos, after, none⟩ :: rest) ⟨e, O, K, nx⟩ Q := L_v Tb_ok (av h hc) hd hn
theorem zgLG (l : List AV) (hn : WL Try.prog nt lo ops rest ⟨(d, .gd g (.agg l)) :: e, O, K, nx⟩ Q) (hj : (ops[q]?).bind (·.dst) = some dj := by exact rfl) (hg : gcond w (get e dj) = some g := by exact rfl) (h : g = true → Av Tb O (ev e) op (.agg l) := by intro hg; refine av rfl ?_; repeat' (first | exact trivial | exact hg | exact rfl | refine And.intro ?_ ?_ | (simp_all; done) | (simp at hg ⊢; simp [hg]; done))) (hd : Nat.blt d nt = true := by exact rfl) (hdj : Nat.blt dj nt = true := by exact rfl) : WL Try.prog nt lo ops (⟨some d, op, ty, pos, after, some (q, w)⟩ :: rest) ⟨e, O, K, nx⟩ Q := L_g Tb_ok hj hg h hd hdj hn
theorem zLT (l : List AV) (hn : WL Try.prog nt lo ops rest ⟨(d, (.tup l)) :: e, O, K, nx⟩ Q) (h : ave Tb O (ev e) op = some (c, (.tup l)) := by exact rfl) (hc : c := by first | exact ⟨trivial, trivial⟩ | exact ⟨trivial, rfl⟩ | exact ⟨trivial, True.intro⟩) (hd : Nat.blt d nt = true := by exact rfl) : WL Try.prog nt lo ops (⟨some d, op, ty, pos, after, none⟩ :: rest) ⟨e, O, K, nx⟩ Q := L_v Tb_ok (av h hc) hd hn
theorem zgLT (l : List AV) (hn : WL Try.prog nt lo ops rest ⟨(d, .gd g (.tup l)) :: e, O, K, nx⟩ Q) (hj : (ops[q]?).bind (·.dst) = some dj := by exact rfl) (hg : gcond w (get e dj) = some g := by exact rfl) (h : g = true → Av Tb O (ev e) op (.tup l) := by intro hg; refine av rfl ?_; repeat' (first | exact trivial | exact hg | exact rfl | refine And.intro ?_ ?_ | (simp_all; done) | (simp at hg ⊢; simp [hg]; done))) (hd : Nat.blt d nt = true := by exact rfl) (hdj : Nat.blt dj nt = true := by exact rfl) : WL Try.prog nt lo ops (⟨some d, op, ty, pos, after, some (q, w)⟩ :: rest) ⟨e, O, K, nx⟩ Q := L_g Tb_ok hj hg h hd hdj hn
theorem zpLI (hn : WL Try.prog nt lo ops rest ⟨(d, (.int k z)) :: e, O, K, nx⟩ Q) (h : ave Tb O (ev e) op = some (c, (.int k z)) := by exact rfl) (hc : c := by refine ⟨?_, fun h => ?_, fun h => ?_⟩ <;> first | exact True.intro | exact ⟨h, True.intro⟩ | (refine ⟨?_, True.intro⟩; first | (rw [h]; done) | (rw [h]; rfl) | (simp [h]; done) | (simp at h hg ⊢; simp [h, hg]; done) | (simp_all; done) | (simp_all; omega))) (hd : Nat.blt d nt = true := by exact rfl) : WL Try.prog nt lo ops (⟨some d, op, ty, pos, after, none⟩ :: rest) ⟨e, O, K, nx⟩ Q := L_v Tb_ok (av h hc) hd hn
theorem zqLI (hn : WL Try.prog nt lo ops rest ⟨(d, .gd g (.int k z)) :: e, O, K, nx⟩ Q) (hj : (ops[q]?).bind (·.dst) = some dj := by exact rfl) (hg : gcond w (get e dj) = some g := by exact rfl) (h : g = true → Av Tb O (ev e) op (.int k z) := by intro hg; refine av rfl (by refine ⟨?_, fun h => ?_, fun h => ?_⟩ <;> first | exact True.intro | exact ⟨h, True.intro⟩ | (refine ⟨?_, True.intro⟩; first | (rw [h]; done) | (rw [h]; rfl) | (simp [h]; done) | (simp at h hg ⊢; simp [h, hg]; done) | (simp_all; done) | (simp_all; omega)))) (hd : Nat.blt d nt = true := by exact rfl) (hdj : Nat.blt dj nt = true := by exact rfl) : WL Try.prog nt lo ops (⟨some d, op, ty, pos, after, some (q, w)⟩ :: rest) ⟨e, O, K, nx⟩ Q := L_g Tb_ok hj hg h hd hdj hn
theorem zpLB (hn : WL Try.prog nt lo ops rest ⟨(d, (.bool b)) :: e, O, K, nx⟩ Q) (h : ave Tb O (ev e) op = some (c, (.bool b)) := by exact rfl) (hc : c := by refine ⟨?_, fun h => ?_, fun h => ?_⟩ <;> first | exact True.intro | exact ⟨h, True.intro⟩ | (refine ⟨?_, True.intro⟩; first | (rw [h]; done) | (rw [h]; rfl) | (simp [h]; done) | (simp at h hg ⊢; simp [h, hg]; done) | (simp_all; done) | (simp_all; omega))) (hd : Nat.blt d nt = true := by exact rfl) : WL Try.prog nt lo ops (⟨some d, op, ty, pos, after, none⟩ :: rest) ⟨e, O, K, nx⟩ Q := L_v Tb_ok (av h hc) hd hn
theorem zqLB (hn : WL Try.prog nt lo ops rest ⟨(d, .gd g (.bool b)) :: e, O, K, nx⟩ Q) (hj : (ops[q]?).bind (·.dst) = some dj := by exact rfl) (hg : gcond w (get e dj) = some g := by exact rfl) (h : g = true → Av Tb O (ev e) op (.bool b) := by intro hg; refine av rfl (by refine ⟨?_, fun h => ?_, fun h => ?_⟩ <;> first | exact True.intro | exact ⟨h, True.intro⟩ | (refine ⟨?_, True.intro⟩; first | (rw [h]; done) | (rw [h]; rfl) | (simp [h]; done) | (simp at h hg ⊢; simp [h, hg]; done) | (simp_all; done) | (simp_all; omega)))) (hd : Nat.blt d nt = true := by exact rfl) (hdj : Nat.blt dj nt = true := by exact rfl) : WL Try.prog nt lo ops (⟨some d, op, ty, pos, after, some (q, w)⟩ :: rest) ⟨e, O, K, nx⟩ Q := L_g Tb_ok hj hg h hd hdj hn
theorem zLc {cl : Call} {as_ bs : List AV} {r : AV} (hr : Ok Try.prog f bs r) (hn : WL Try.prog nt lo ops rest ⟨(d, r) :: e, O, K, nx⟩ Q) (h : aCall (ev e) cl = some (c, f, as_) := by exact rfl) (hc : c := by exact trivial) (hb : as_.map demA = bs := by exact rfl) (hg : bs.all grA = true := by exact rfl) (hd : Nat.blt d nt = true := by exact rfl) : WL Try.prog nt lo ops (⟨some d, .call cl, ty, pos, after, none⟩ :: rest) ⟨e, O, K, nx⟩ Q := L_call h hd hc hb hg hr hn
theorem zEI (hn : LexE Try.prog nt lo ops O K nx rest ((d, (.int k z)) :: e) G) (h : ave Tb O (ev e) op = some (c, (.int k z)) := by exact rfl) (hc : c := by first | exact ⟨trivial, trivial⟩ | exact ⟨trivial, rfl⟩ | exact ⟨trivial, True.intro⟩) (hd : Nat.blt d nt = true := by exact rfl) : LexE Try.prog nt lo ops O K nx (⟨some d, op, ty, pos, after, none⟩ :: rest) e G := E_v Tb_ok (av h hc) hd hn
theorem zgEI (hn : LexE Try.prog nt lo ops O K nx rest ((d, .gd g (.int k z)) :: e) G) (hj : (ops[q]?).bind (·.dst) = some dj := by exact rfl) (hg : gcond w (get e dj) = some g := by exact rfl) (h : g = true → Av Tb O (ev e) op (.int k z) := by intro hg; refine av rfl ?_; repeat' (first | exact trivial | exact hg | exact rfl | refine And.intro ?_ ?_ | (simp_all; done) | (simp at hg ⊢; simp [hg]; done))) (hd : Nat.blt d nt = true := by exact rfl) (hdj : Nat.blt dj nt = true := by exact rfl) : LexE Try.prog nt lo ops O K nx (⟨some d, op, ty, pos, after, some (q, w)⟩ :: rest) e G := E_g Tb_ok hj hg h hd hdj hn
theorem zEB (hn : LexE Try.prog nt lo ops O K nx rest ((d, (.bool b)) :: e) G) (h : ave Tb O (ev e) op = some (c, (.bool b)) := by exact rfl) (hc : c := by first | exact ⟨trivial, trivial⟩ | exact ⟨trivial, rfl⟩ | exact ⟨trivial, True.intro⟩) (hd : Nat.blt d nt = true := by exact rfl) : LexE Try.prog nt lo ops O K nx (⟨some d, op, ty, pos, after, none⟩ :: rest) e G := E_v Tb_ok (av h hc) hd hn
theorem zgEB (hn : LexE Try.prog nt lo ops O K nx rest ((d, .gd g (.bool b)) :: e) G) (hj : (ops[q]?).bind (·.dst) = some dj := by exact rfl) (hg : gcond w (get e dj) = some g := by exact rfl) (h : g = true → Av Tb O (ev e) op (.bool b) := by intro hg; refine av rfl ?_; repeat' (first | exact trivial | exact hg | exact rfl | refine And.intro ?_ ?_ | (simp_all; done) | (simp at hg ⊢; simp [hg]; done))) (hd : Nat.blt d nt = true := by exact rfl) (hdj : Nat.blt dj nt = true := by exact rfl) : LexE Try.prog nt lo ops O K nx (⟨some d, op, ty, pos, after, some (q, w)⟩ :: rest) e G := E_g Tb_ok hj hg h hd hdj hn
theorem zEP (hn : LexE Try.prog nt lo ops O K nx rest ((d, (.ptr n i j)) :: e) G) (h : ave Tb O (ev e) op = some (c, (.ptr n i j)) := by exact rfl) (hc : c := by first | exact ⟨trivial, trivial⟩ | exact ⟨trivial, rfl⟩ | exact ⟨trivial, True.intro⟩) (hd : Nat.blt d nt = true := by exact rfl) : LexE Try.prog nt lo ops O K nx (⟨some d, op, ty, pos, after, none⟩ :: rest) e G := E_v Tb_ok (av h hc) hd hn
theorem zgEP (hn : LexE Try.prog nt lo ops O K nx rest ((d, .gd g (.ptr n i j)) :: e) G) (hj : (ops[q]?).bind (·.dst) = some dj := by exact rfl) (hg : gcond w (get e dj) = some g := by exact rfl) (h : g = true → Av Tb O (ev e) op (.ptr n i j) := by intro hg; refine av rfl ?_; repeat' (first | exact trivial | exact hg | exact rfl | refine And.intro ?_ ?_ | (simp_all; done) | (simp at hg ⊢; simp [hg]; done))) (hd : Nat.blt d nt = true := by exact rfl) (hdj : Nat.blt dj nt = true := by exact rfl) : LexE Try.prog nt lo ops O K nx (⟨some d, op, ty, pos, after, some (q, w)⟩ :: rest) e G := E_g Tb_ok hj hg h hd hdj hn
theorem zEQ {l : List AV} (hn : LexE Try.prog nt lo ops O K nx rest ((d, (.rptr l)) :: e) G) (h : ave Tb O (ev e) op = some (c, (.rptr l)) := by exact rfl) (hc : c := by first | exact ⟨trivial, trivial⟩ | exact ⟨trivial, rfl⟩ | exact ⟨trivial, True.intro⟩) (hd : Nat.blt d nt = true := by exact rfl) : LexE Try.prog nt lo ops O K nx (⟨some d, op, ty, pos, after, none⟩ :: rest) e G := E_v Tb_ok (av h hc) hd hn
theorem zgEQ {l : List AV} (hn : LexE Try.prog nt lo ops O K nx rest ((d, .gd g (.rptr l)) :: e) G) (hj : (ops[q]?).bind (·.dst) = some dj := by exact rfl) (hg : gcond w (get e dj) = some g := by exact rfl) (h : g = true → Av Tb O (ev e) op (.rptr l) := by intro hg; refine av rfl ?_; repeat' (first | exact trivial | exact hg | exact rfl | refine And.intro ?_ ?_ | (simp_all; done) | (simp at hg ⊢; simp [hg]; done))) (hd : Nat.blt d nt = true := by exact rfl) (hdj : Nat.blt dj nt = true := by exact rfl) : LexE Try.prog nt lo ops O K nx (⟨some d, op, ty, pos, after, some (q, w)⟩ :: rest) e G := E_g Tb_ok hj hg h hd hdj hn
theorem zEO (hn : LexE Try.prog nt lo ops O K nx rest ((d, (.ro ll)) :: e) G) (h : ave Tb O (ev e) op = some (c, (.ro ll)) := by exact rfl) (hc : c := by first | exact ⟨trivial, trivial⟩ | exact ⟨trivial, rfl⟩ | exact ⟨trivial, True.intro⟩) (hd : Nat.blt d nt = true := by exact rfl) : LexE Try.prog nt lo ops O K nx (⟨some d, op, ty, pos, after, none⟩ :: rest) e G := E_v Tb_ok (av h hc) hd hn
theorem zgEO (hn : LexE Try.prog nt lo ops O K nx rest ((d, .gd g (.ro ll)) :: e) G) (hj : (ops[q]?).bind (·.dst) = some dj := by exact rfl) (hg : gcond w (get e dj) = some g := by exact rfl) (h : g = true → Av Tb O (ev e) op (.ro ll) := by intro hg; refine av rfl ?_; repeat' (first | exact trivial | exact hg | exact rfl | refine And.intro ?_ ?_ | (simp_all; done) | (simp at hg ⊢; simp [hg]; done))) (hd : Nat.blt d nt = true := by exact rfl) (hdj : Nat.blt dj nt = true := by exact rfl) : LexE Try.prog nt lo ops O K nx (⟨some d, op, ty, pos, after, some (q, w)⟩ :: rest) e G := E_g Tb_ok hj hg h hd hdj hn
theorem zEA (hn : LexE Try.prog nt lo ops O K nx rest ((d, (.app n ll)) :: e) G) (h : ave Tb O (ev e) op = some (c, (.app n ll)) := by exact rfl) (hc : c := by first | exact ⟨trivial, trivial⟩ | exact ⟨trivial, rfl⟩ | exact ⟨trivial, True.intro⟩) (hd : Nat.blt d nt = true := by exact rfl) : LexE Try.prog nt lo ops O K nx (⟨some d, op, ty, pos, after, none⟩ :: rest) e G := E_v Tb_ok (av h hc) hd hn
theorem zgEA (hn : LexE Try.prog nt lo ops O K nx rest ((d, .gd g (.app n ll)) :: e) G) (hj : (ops[q]?).bind (·.dst) = some dj := by exact rfl) (hg : gcond w (get e dj) = some g := by exact rfl) (h : g = true → Av Tb O (ev e) op (.app n ll) := by intro hg; refine av rfl ?_; repeat' (first | exact trivial | exact hg | exact rfl | refine And.intro ?_ ?_ | (simp_all; done) | (simp at hg ⊢; simp [hg]; done))) (hd : Nat.blt d nt = true := by exact rfl) (hdj : Nat.blt dj nt = true := by exact rfl) : LexE Try.prog nt lo ops O K nx (⟨some d, op, ty, pos, after, some (q, w)⟩ :: rest) e G := E_g Tb_ok hj hg h hd hdj hn
theorem zEW (hn : LexE Try.prog nt lo ops O K nx rest ((d, (.row n i j)) :: e) G) (h : ave Tb O (ev e) op = some (c, (.row n i j)) := by exact rfl) (hc : c := by first | exact ⟨trivial, trivial⟩ | exact ⟨trivial, rfl⟩ | exact ⟨trivial, True.intro⟩) (hd : Nat.blt d nt = true := by exact rfl) : LexE Try.prog nt lo ops O K nx (⟨some d, op, ty, pos, after, none⟩ :: rest) e G := E_v Tb_ok (av h hc) hd hn
theorem zgEW (hn : LexE Try.prog nt lo ops O K nx rest ((d, .gd g (.row n i j)) :: e) G) (hj : (ops[q]?).bind (·.dst) = some dj := by exact rfl) (hg : gcond w (get e dj) = some g := by exact rfl) (h : g = true → Av Tb O (ev e) op (.row n i j) := by intro hg; refine av rfl ?_; repeat' (first | exact trivial | exact hg | exact rfl | refine And.intro ?_ ?_ | (simp_all; done) | (simp at hg ⊢; simp [hg]; done))) (hd : Nat.blt d nt = true := by exact rfl) (hdj : Nat.blt dj nt = true := by exact rfl) : LexE Try.prog nt lo ops O K nx (⟨some d, op, ty, pos, after, some (q, w)⟩ :: rest) e G := E_g Tb_ok hj hg h hd hdj hn
theorem zEN (hn : LexE Try.prog nt lo ops O K nx rest ((d, .nils) :: e) G) (h : ave Tb O (ev e) op = some (c, .nils) := by exact rfl) (hc : c := by first | exact ⟨trivial, trivial⟩ | exact ⟨trivial, rfl⟩ | exact ⟨trivial, True.intro⟩) (hd : Nat.blt d nt = true := by exact rfl) : LexE Try.prog nt lo ops O K nx (⟨some d, op, ty, pos, after, none⟩ :: rest) e G := E_v Tb_ok (av h hc) hd hn
theorem zgEN (hn : LexE Try.prog nt lo ops O K nx rest ((d, .gd g .nils) :: e) G) (hj : (ops[q]?).bind (·.dst) = some dj := by exact rfl) (hg : gcond w (get e dj) = some g := by exact rfl) (h : g = true → Av Tb O (ev e) op .nils := by intro hg; refine av rfl ?_; repeat' (first | exact trivial | exact hg | exact rfl | refine And.intro ?_ ?_ | (simp_all; done) | (simp at hg ⊢; simp [hg]; done))) (hd : Nat.blt d nt = true := by exact rfl) (hdj : Nat.blt dj nt = true := by exact rfl) : LexE Try.prog nt lo ops O K nx (⟨some d, op, ty, pos, after, some (q, w)⟩ :: rest) e G := E_g Tb_ok hj hg h hd hdj hn
theorem zEZ (hn : LexE Try.prog nt lo ops O K nx rest ((d, .nilp) :: e) G) (h : ave Tb O (ev e) op = some (c, .nilp) := by exact rfl) (hc : c := by first | exact ⟨trivial, trivial⟩ | exact ⟨trivial, rfl⟩ | exact ⟨trivial, True.intro⟩) (hd : Nat.blt d nt = true := by exact rfl) : LexE Try.prog nt lo ops O K nx (⟨some d, op, ty, pos, after, none⟩ :: rest) e G := E_v Tb_ok (av h hc) hd hn
theorem zgEZ (hn : LexE Try.prog nt lo ops O K nx rest ((d, .gd g .nilp) :: e) G) (hj : (ops[q]?).bind (·.dst) = some dj := by exact rfl) (hg : gcond w (get e dj) = some g := by exact rfl) (h : g = true → Av Tb O (ev e) op .nilp := by intro hg; refine av rfl ?_; repeat' (first | exact trivial | exact hg | exact rfl | refine And.intro ?_ ?_ | (simp_all; done) | (simp at hg ⊢; simp [hg]; done))) (hd : Nat.blt d nt = true := by exact rfl) (hdj : Nat.blt dj nt = true := by exact rfl) : LexE Try.prog nt lo ops O K nx (⟨some d, op, ty, pos, after, some (q, w)⟩ :: rest) e G := E_g Tb_ok hj hg h hd hdj hn
theorem zEF (hn : LexE Try.prog nt lo ops O K nx rest ((d, (.fn f fs cs)) :: e) G) (h : ave Tb O (ev e) op = some (c, (.fn f fs cs)) := by exact rfl) (hc : c := by first | exact ⟨trivial, trivial⟩ | exact ⟨trivial, rfl⟩ | exact ⟨trivial, True.intro⟩) (hd : Nat.blt d nt = true := by exact rfl) : LexE Try.prog nt lo ops O K nx (⟨some d, op, ty, pos, after, none⟩ :: rest) e G := E_v Tb_ok (av h hc) hd hn
theorem zgEF (hn : LexE Try.prog nt lo ops O K nx rest ((d, .gd g (.fn f fs cs)) :: e) G) (hj : (ops[q]?).bind (·.dst) = some dj := by exact rfl) (hg : gcond w (get e dj) = some g := by exact rfl) (h : g = true → Av Tb O (ev e) op (.fn f fs cs) := by intro hg; refine av rfl ?_; repeat' (first | exact trivial | exact hg | exact rfl | refine And.intro ?_ ?_ | (simp_all; done) | (simp at hg ⊢; simp [hg]; done))) (hd : Nat.blt d nt = true := by exact rfl) (hdj : Nat.blt dj nt = true := by exact rfl) : LexE Try.prog nt lo ops O K nx (⟨some d, op, ty, pos, after, some (q, w)⟩ :: rest) e G := E_g Tb_ok hj hg h hd hdj hn
theorem zEY (hn : LexE Try.prog nt lo ops O K nx rest ((d, (.yl n)) :: e) G) (h : ave Tb O (ev e) op = some (c, (.yl n)) := by exact rfl) (hc : c := by first | exact ⟨trivial, trivial⟩ | exact ⟨trivial, rfl⟩ | exact ⟨trivial, True.intro⟩) (hd : Nat.blt d nt = true := by exact rfl) : LexE Try.prog nt lo ops O K nx (⟨some d, op, ty, pos, after, none⟩ :: rest) e G := E_v Tb_ok (av h hc) hd hn
theorem zgEY (hn : LexE Try.prog nt lo ops O K nx rest ((d, .gd g (.yl n)) :: e) G) (hj : (ops[q]?).bind (·.dst) = some dj := by exact rfl) (hg : gcond w (get e dj) = some g := by exact rfl) (h : g = true → Av Tb O (ev e) op (.yl n) := by intro hg; refine av rfl ?_; repeat' (first | exact trivial | exact hg | exact rfl | refine And.intro ?_ ?_ | (simp_all; done) | (simp at hg ⊢; simp [hg]; done))) (hd : Nat.blt d nt = true := by exact rfl) (hdj : Nat.blt dj nt = true := by exact rfl) : LexE Try.prog nt lo ops O K nx (⟨some d, op, ty, pos, after, some (q, w)⟩ :: rest) e G := E_g Tb_ok hj hg h hd hdj hn
theorem zEU (hn : LexE Try.prog nt lo ops O K nx rest ((d, v) :: e) G) (h : ave Tb O (ev e) op = some (c, v) := by exact rfl) (hc : c := by first | exact ⟨trivial, trivial⟩ | exact ⟨trivial, rfl⟩ | exact ⟨trivial, True.intro⟩) (hd : Nat.blt d nt = true := by exact rfl) : LexE Try.prog nt lo ops O K nx (⟨some d, op, ty, pos, after, none⟩ :: rest) e G := E_v Tb_ok (av h hc) hd hn
theorem zgEU (hn : LexE Try.prog nt lo ops O K nx rest ((d, .gd g v) :: e) G) (hj : (ops[q]?).bind (·.dst) = some dj := by exact rfl) (hg : gcond w (get e dj) = some g := by exact rfl) (h : g = true → Av Tb O (ev e) op v := by intro hg; refine av rfl ?_; repeat' (first | exact trivial | exact hg | exact rfl | refine And.intro ?_ ?_ | (simp_all; done) | (simp at hg ⊢; simp [hg]; done))) (hd : Nat.blt d nt = true := by exact rfl) (hdj : Nat.blt dj nt = true := by exact rfl) : LexE Try.prog nt lo ops O K nx (⟨some d, op, ty, pos, after, some (q, w)⟩ :: rest) e G := E_g Tb_ok hj hg h hd hdj hn
theorem zEG (l : List AV) (hn : LexE Try.prog nt lo ops O K nx rest ((d, (.agg l)) :: e) G) (h : ave Tb O (ev e) op = some (c, (.agg l)) := by exact rfl) (hc : c := by first | exact ⟨trivial, trivial⟩ | exact ⟨trivial, rfl⟩ | exact ⟨trivial, True.intro⟩) (hd : Nat.blt d nt = true := by exact rfl) : LexE Try.prog nt lo ops O K nx (⟨some d, op, ty, pos, after, none⟩ :: rest) e G := E_v Tb_ok (av h hc) hd hn
theorem zgEG (l : List AV) (hn : LexE Try.prog nt lo ops O K nx rest ((d, .gd g (.agg l)) :: e) G) (hj : (ops[q]?).bind (·.dst) = some dj := by exact rfl) (hg : gcond w (get e dj) = some g := by exact rfl) (h : g = true → Av Tb O (ev e) op (.agg l) := by intro hg; refine av rfl ?_; repeat' (first | exact trivial | exact hg | exact rfl | refine And.intro ?_ ?_ | (simp_all; done) | (simp at hg ⊢; simp [hg]; done))) (hd : Nat.blt d nt = true := by exact rfl) (hdj : Nat.blt dj nt = true := by exact rfl) : LexE Try.prog nt lo ops O K nx (⟨some d, op, ty, pos, after, some (q, w)⟩ :: rest) e G := E_g Tb_ok hj hg h hd hdj hn
theorem zET (l : List AV) (hn : LexE Try.prog nt lo ops O K nx rest ((d, (.tup l)) :: e) G) (h : ave Tb O (ev e) op = some (c, (.tup l)) := by exact rfl) (hc : c := by first | exact ⟨trivial, trivial⟩ | exact ⟨trivial, rfl⟩ | exact ⟨trivial, True.intro⟩) (hd : Nat.blt d nt = true := by exact rfl) : LexE Try.prog nt lo ops O K nx (⟨some d, op, ty, pos, after, none⟩ :: rest) e G := E_v Tb_ok (av h hc) hd hn
theorem zgET (l : List AV) (hn : LexE Try.prog nt lo ops O K nx rest ((d, .gd g (.tup l)) :: e) G) (hj : (ops[q]?).bind (·.dst) = some dj := by exact rfl) (hg : gcond w (get e dj) = some g := by exact rfl) (h : g = true → Av Tb O (ev e) op (.tup l) := by intro hg; refine av rfl ?_; repeat' (first | exact trivial | exact hg | exact rfl | refine And.intro ?_ ?_ | (simp_all; done) | (simp at hg ⊢; simp [hg]; done))) (hd : Nat.blt d nt = true := by exact rfl) (hdj : Nat.blt dj nt = true := by exact rfl) : LexE Try.prog nt lo ops O K nx (⟨some d, op, ty, pos, after, some (q, w)⟩ :: rest) e G := E_g Tb_ok hj hg h hd hdj hn
theorem zpEI (hn : LexE Try.prog nt lo ops O K nx rest ((d, (.int k z)) :: e) G) (h : ave Tb O (ev e) op = some (c, (.int k z)) := by exact rfl) (hc : c := by refine ⟨?_, fun h => ?_, fun h => ?_⟩ <;> first | exact True.intro | exact ⟨h, True.intro⟩ | (refine ⟨?_, True.intro⟩; first | (rw [h]; done) | (rw [h]; rfl) | (simp [h]; done) | (simp at h hg ⊢; simp [h, hg]; done) | (simp_all; done) | (simp_all; omega))) (hd : Nat.blt d nt = true := by exact rfl) : LexE Try.prog nt lo ops O K nx (⟨some d, op, ty, pos, after, none⟩ :: rest) e G := E_v Tb_ok (av h hc) hd hn
theorem zqEI (hn : LexE Try.prog nt lo ops O K nx rest ((d, .gd g (.int k z)) :: e) G) (hj : (ops[q]?).bind (·.dst) = some dj := by exact rfl) (hg : gcond w (get e dj) = some g := by exact rfl) (h : g = true → Av Tb O (ev e) op (.int k z) := by intro hg; refine av rfl (by refine ⟨?_, fun h => ?_, fun h => ?_⟩ <;> first | exact True.intro | exact ⟨h, True.intro⟩ | (refine ⟨?_, True.intro⟩; first | (rw [h]; done) | (rw [h]; rfl) | (simp [h]; done) | (simp at h hg ⊢; simp [h, hg]; done) | (simp_all; done) | (simp_all; omega)))) (hd : Nat.blt d nt = true := by exact rfl) (hdj : Nat.blt dj nt = true := by exact rfl) : LexE Try.prog nt lo ops O K nx (⟨some d, op, ty, pos, after, some (q, w)⟩ :: rest) e G := E_g Tb_ok hj hg h hd hdj hn
theorem zpEB (hn : LexE Try.prog nt lo ops O K nx rest ((d, (.bool b)) :: e) G) (h : ave Tb O (ev e) op = some (c, (.bool b)) := by exact rfl) (hc : c := by refine ⟨?_, fun h => ?_, fun h => ?_⟩ <;> first | exact True.intro | exact ⟨h, True.intro⟩ | (refine ⟨?_, True.intro⟩; first | (rw [h]; done) | (rw [h]; rfl) | (simp [h]; done) | (simp at h hg ⊢; simp [h, hg]; done) | (simp_all; done) | (simp_all; omega))) (hd : Nat.blt d nt = true := by exact rfl) : LexE Try.prog nt lo ops O K nx (⟨some d, op, ty, pos, after, none⟩ :: rest) e G := E_v Tb_ok (av h hc) hd hn
theorem zqEB (hn : LexE Try.prog nt lo ops O K nx rest ((d, .gd g (.bool b)) :: e) G) (hj : (ops[q]?).bind (·.dst) = some dj := by exact rfl) (hg : gcond w (get e dj) = some g := by exact rfl) (h : g = true → Av Tb O (ev e) op (.bool b) := by intro hg; refine av rfl (by refine ⟨?_, fun h => ?_, fun h => ?_⟩ <;> first | exact True.intro | exact ⟨h, True.intro⟩ | (refine ⟨?_, True.intro⟩; first | (rw [h]; done) | (rw [h]; rfl) | (simp [h]; done) | (simp at h hg ⊢; simp [h, hg]; done) | (simp_all; done) | (simp_all; omega)))) (hd : Nat.blt d nt = true := by exact rfl) (hdj : Nat.blt dj nt = true := by exact rfl) : LexE Try.prog nt lo ops O K nx (⟨some d, op, ty, pos, after, some (q, w)⟩ :: rest) e G := E_g Tb_ok hj hg h hd hdj hn
theorem zEc {cl : Call} {as_ bs : List AV} {r : AV} (hr : Ok Try.prog f bs r) (hn : LexE Try.prog nt lo ops O K nx rest ((d, r) :: e) G) (h : aCall (ev e) cl = some (c, f, as_) := by exact rfl) (hc : c := by exact trivial) (hb : as_.map demA = bs := by exact rfl) (hg : bs.all grA = true := by exact rfl) (hd : Nat.blt d nt = true := by exact rfl) : LexE Try.prog nt lo ops O K nx (⟨some d, .call cl, ty, pos, after, none⟩ :: rest) e G := E_call h hd hc hb hg hr hn
theorem zSI (hn : LexS Try.prog nt lo ops K Om rest ((d, (.int k z)) :: e) G) (h : ave Tb Om (ev e) op = some (c, (.int k z)) := by exact rfl) (hc : c := by first | exact ⟨trivial, trivial⟩ | exact ⟨trivial, rfl⟩ | exact ⟨trivial, True.intro⟩) (hd : Nat.blt d nt = true := by exact rfl) : LexS Try.prog nt lo ops K Om (⟨some d, op, ty, pos, after, none⟩ :: rest) e G := S_v Tb_ok (av h hc) hd hn
theorem zgSI (hn : LexS Try.prog nt lo ops K Om rest ((d, .gd g (.int k z)) :: e) G) (hj : (ops[q]?).bind (·.dst) = some dj := by exact rfl) (hg : gcond w (get e dj) = some g := by exact rfl) (h : g = true → Av Tb Om (ev e) op (.int k z) := by intro hg; refine av rfl ?_; repeat' (first | exact trivial | exact hg | exact rfl | refine And.intro ?_ ?_ | (simp_all; done) | (simp at hg ⊢; simp [hg]; done))) (hd : Nat.blt d nt = true := by exact rfl) (hdj : Nat.blt dj nt = true := by exact rfl) : LexS Try.prog nt lo ops K Om (⟨some d, op, ty, pos, after, some (q, w)⟩ :: rest) e G := S_g Tb_ok hj hg h hd hdj hn
theorem zSB (hn : LexS Try.prog nt lo ops K Om rest ((d, (.bool b)) :: e) G) (h : ave Tb Om (ev e) op = some (c, (.bool b)) := by exact rfl) (hc : c := by first | exact ⟨trivial, trivial⟩ | exact ⟨trivial, rfl⟩ | exact ⟨trivial, True.intro⟩) (hd : Nat.blt d nt = true := by exact rfl) : LexS Try.prog nt lo ops K Om (⟨some d, op, ty, pos, after, none⟩ :: rest) e G := S_v Tb_ok (av h hc) hd hn
theorem zgSB (hn : LexS Try.prog nt lo ops K Om rest ((d, .gd g (.bool b)) :: e) G) (hj : (ops[q]?).bind (·.dst) = some dj := by exact rfl) (hg : gcond w (get e dj) = some g := by exact rfl) (h : g = true → Av Tb Om (ev e) op (.bool b) := by intro hg; refine av rfl ?_; repeat' (first | exact trivial | exact hg | exact rfl | refine And.intro ?_ ?_ | (simp_all; done) | (simp at hg ⊢; simp [hg]; done))) (hd : Nat.blt d nt = true := by exact rfl) (hdj : Nat.blt dj nt = true := by exact rfl) : LexS Try.prog nt lo ops K Om (⟨some d, op, ty, pos, after, some (q, w)⟩ :: rest) e G := S_g Tb_ok hj hg h hd hdj hn
theorem zSP (hn : LexS Try.prog nt lo ops K Om rest ((d, (.ptr n i j)) :: e) G) (h : ave Tb Om (ev e) op = some (c, (.ptr n i j)) := by exact rfl) (hc : c := by first | exact ⟨trivial, trivial⟩ | exact ⟨trivial, rfl⟩ | exact ⟨trivial, True.intro⟩) (hd : Nat.blt d nt = true := by exact rfl) : LexS Try.prog nt lo ops K Om (⟨some d, op, ty, pos, after, none⟩ :: rest) e G := S_v Tb_ok (av h hc) hd hn
theorem zgSP (hn : LexS Try.prog nt lo ops K Om rest ((d, .gd g (.ptr n i j)) :: e) G) (hj : (ops[q]?).bind (·.dst) = some dj := by exact rfl) (hg : gcond w (get e dj) = some g := by exact rfl) (h : g = true → Av Tb Om (ev e) op (.ptr n i j) := by intro hg; refine av rfl ?_; repeat' (first | exact trivial | exact hg | exact rfl | refine And.intro ?_ ?_ | (simp_all; done) | (simp at hg ⊢; simp [hg]; done))) (hd : Nat.blt d nt = true := by exact rfl) (hdj : Nat.blt dj nt = true := by exact rfl) : LexS Try.prog nt lo ops K Om (⟨some d, op, ty, pos, after, some (q, w)⟩ :: rest) e G := S_g Tb_ok hj hg h hd hdj hn
theorem zSQ {l : List AV} (hn : LexS Try.prog nt lo ops K Om rest ((d, (.rptr l)) :: e) G) (h : ave Tb Om (ev e) op = some (c, (.rptr l)) := by exact rfl) (hc : c := by first | exact ⟨trivial, trivial⟩ | exact ⟨trivial, rfl⟩ | exact ⟨trivial, True.intro⟩) (hd : Nat.blt d nt = true := by exact rfl) : LexS Try.prog nt lo ops K Om (⟨some d, op, ty, pos, after, none⟩ :: rest) e G := S_v Tb_ok (av h hc) hd hn
theorem zgSQ {l : List AV} (hn : LexS Try.prog nt lo ops K Om rest ((d, .gd g (.rptr l)) :: e) G) (hj : (ops[q]?).bind (·.dst) = some dj := by exact rfl) (hg : gcond w (get e dj) = some g := by exact rfl) (h : g = true → Av Tb Om (ev e) op (.rptr l) := by intro hg; refine av rfl ?_; repeat' (first | exact trivial | exact hg | exact rfl | refine And.intro ?_ ?_ | (simp_all; done) | (simp at hg ⊢; simp [hg]; done))) (hd : Nat.blt d nt = true := by exact rfl) (hdj : Nat.blt dj nt = true := by exact rfl) : LexS Try.prog nt lo ops K Om (⟨some d, op, ty, pos, after, some (q, w)⟩ :: rest) e G := S_g Tb_ok hj hg h hd hdj hn
theorem zSO (hn : LexS Try.prog nt lo ops K Om rest ((d, (.ro ll)) :: e) G) (h : ave Tb Om (ev e) op = some (c, (.ro ll)) := by exact rfl) (hc : c := by first | exact ⟨trivial, trivial⟩ | exact ⟨trivial, rfl⟩ | exact ⟨trivial, True.intro⟩) (hd : Nat.blt d nt = true := by exact rfl) : LexS Try.prog nt lo ops K Om (⟨some d, op, ty, pos, after, none⟩ :: rest) e G := S_v Tb_ok (av h hc) hd hn
theorem zgSO (hn : LexS Try.prog nt lo ops K Om rest ((d, .gd g (.ro ll)) :: e) G) (hj : (ops[q]?).bind (·.dst) = some dj := by exact rfl) (hg : gcond w (get e dj) = some g := by exact rfl) (h : g = true → Av Tb Om (ev e) op (.ro ll) := by intro hg; refine av rfl ?_; repeat' (first | exact trivial | exact hg | exact rfl | refine And.intro ?_ ?_ | (simp_all; done) | (simp at hg ⊢; simp [hg]; done))) (hd : Nat.blt d nt = true := by exact rfl) (hdj : Nat.blt dj nt = true := by exact rfl) : LexS Try.prog nt lo ops K Om (⟨some d, op, ty, pos, after, some (q, w)⟩ :: rest) e G := S_g Tb_ok hj hg h hd hdj hn
theorem zSA (hn : LexS Try.prog nt lo ops K Om rest ((d, (.app n ll)) :: e) G) (h : ave Tb Om (ev e) op = some (c, (.app n ll)) := by exact rfl) (hc : c := by first | exact ⟨trivial, trivial⟩ | exact ⟨trivial, rfl⟩ | exact ⟨trivial, True.intro⟩) (hd : Nat.blt d nt = true := by exact rfl) : LexS Try.prog nt lo ops K Om (⟨some d, op, ty, pos, after, none⟩ :: rest) e G := S_v Tb_ok (av h hc) hd hn
theorem zgSA (hn : LexS Try.prog nt lo ops K Om rest ((d, .gd g (.app n ll)) :: e) G) (hj : (ops[q]?).bind (·.dst) = some dj := by exact rfl) (hg : gcond w (get e dj) = some g := by exact rfl) (h : g = true → Av Tb Om (ev e) op (.app n ll) := by intro hg; refine av rfl ?_; repeat' (first | exact trivial | exact hg | exact rfl | refine And.intro ?_ ?_ | (simp_all; done) | (simp at hg ⊢; simp [hg]; done))) (hd : Nat.blt d nt = true := by exact rfl) (hdj : Nat.blt dj nt = true := by exact rfl) : LexS Try.prog nt lo ops K Om (⟨some d, op, ty, pos, after, some (q, w)⟩ :: rest) e G := S_g Tb_ok hj hg h hd hdj hn
theorem zSW (hn : LexS Try.prog nt lo ops K Om rest ((d, (.row n i j)) :: e) G) (h : ave Tb Om (ev e) op = some (c, (.row n i j)) := by exact rfl) (hc : c := by first | exact ⟨trivial, trivial⟩ | exact ⟨trivial, rfl⟩ | exact ⟨trivial, True.intro⟩) (hd : Nat.blt d nt = true := by exact rfl) : LexS Try.prog nt lo ops K Om (⟨some d, op, ty, pos, after, none⟩ :: rest) e G := S_v Tb_ok (av h hc) hd hn
theorem zgSW (hn : LexS Try.prog nt lo ops K Om rest ((d, .gd g (.row n i j)) :: e) G) (hj : (ops[q]?).bind (·.dst) = some dj := by exact rfl) (hg : gcond w (get e dj) = some g := by exact rfl) (h : g = true → Av Tb Om (ev e) op (.row n i j) := by intro hg; refine av rfl ?_; repeat' (first | exact trivial | exact hg | exact rfl | refine And.intro ?_ ?_ | (simp_all; done) | (simp at hg ⊢; simp [hg]; done))) (hd : Nat.blt d nt = true := by exact rfl) (hdj : Nat.blt dj nt = true := by exact rfl) : LexS Try.prog nt lo ops K Om (⟨some d, op, ty, pos, after, some (q, w)⟩ :: rest) e G := S_g Tb_ok hj hg h hd hdj hn
theorem zSN (hn : LexS Try.prog nt lo ops K Om rest ((d, .nils) :: e) G) (h : ave Tb Om (ev e) op = some (c, .nils) := by exact rfl) (hc : c := by first | exact ⟨trivial, trivial⟩ | exact ⟨trivial, rfl⟩ | exact ⟨trivial, True.intro⟩) (hd : Nat.blt d nt = true := by exact rfl) : LexS Try.prog nt lo ops K Om (⟨some d, op, ty, pos, after, none⟩ :: rest) e G := S_v Tb_ok (av h hc) hd hn
theorem zgSN (hn : LexS Try.prog nt lo ops K Om rest ((d, .gd g .nils) :: e) G) (hj : (ops[q]?).bind (·.dst) = some dj := by exact rfl) (hg : gcond w (get e dj) = some g := by exact rfl) (h : g = true → Av Tb Om (ev e) op .nils := by intro hg; refine av rfl ?_; repeat' (first | exact trivial | exact hg | exact rfl | refine And.intro ?_ ?_ | (simp_all; done) | (simp at hg ⊢; simp [hg]; done))) (hd : Nat.blt d nt = true := by exact rfl) (hdj : Nat.blt dj nt = true := by exact rfl) : LexS Try.prog nt lo ops K Om (⟨some d, op, ty, pos, after, some (q, w)⟩ :: rest) e G := S_g Tb_ok hj hg h hd hdj hn
theorem zSZ (hn : LexS Try.prog nt lo ops K Om rest ((d, .nilp) :: e) G) (h : ave Tb Om (ev e) op = some (c, .nilp) := by exact rfl) (hc : c := by first | exact ⟨trivial, trivial⟩ | exact ⟨trivial, rfl⟩ | exact ⟨trivial, True.intro⟩) (hd : Nat.blt d nt = true := by exact rfl) : LexS Try.prog nt lo ops K Om (⟨some d, op, ty, pos, after, none⟩ :: rest) e G := S_v Tb_ok (av h hc) hd hn
theorem zgSZ (hn : LexS Try.prog nt lo ops K Om rest ((d, .gd g .nilp) :: e) G) (hj : (ops[q]?).bind (·.dst) = some dj := by exact rfl) (hg : gcond w (get e dj) = some g := by exact rfl) (h : g = true → Av Tb Om (ev e) op .nilp := by intro hg; refine av rfl ?_; repeat' (first | exact trivial | exact hg | exact rfl | refine And.intro ?_ ?_ | (simp_all; done) | (simp at hg ⊢; simp [hg]; done))) (hd : Nat.blt d nt = true := by exact rfl) (hdj : Nat.blt dj nt = true := by exact rfl) : LexS Try.prog nt lo ops K Om (⟨some d, op, ty, pos, after, some (q, w)⟩ :: rest) e G := S_g Tb_ok hj hg h hd hdj hn
theorem zSF (hn : LexS Try.prog nt lo ops K Om rest ((d, (.fn f fs cs)) :: e) G) (h : ave Tb Om (ev e) op = some (c, (.fn f fs cs)) := by exact rfl) (hc : c := by first | exact ⟨trivial, trivial⟩ | exact ⟨trivial, rfl⟩ | exact ⟨trivial, True.intro⟩) (hd : Nat.blt d nt = true := by exact rfl) : LexS Try.prog nt lo ops K Om (⟨some d, op, ty, pos, after, none⟩ :: rest) e G := S_v Tb_ok (av h hc) hd hn
theorem zgSF (hn : LexS Try.prog nt lo ops K Om rest ((d, .gd g (.fn f fs cs)) :: e) G) (hj : (ops[q]?).bind (·.dst) = some dj := by exact rfl) (hg : gcond w (get e dj) = some g := by exact rfl) (h : g = true → Av Tb Om (ev e) op (.fn f fs cs) := by intro hg; refine av rfl ?_; repeat' (first | exact trivial | exact hg | exact rfl | refine And.intro ?_ ?_ | (simp_all; done) | (simp at hg ⊢; simp [hg]; done))) (hd : Nat.blt d nt = true := by exact rfl) (hdj : Nat.blt dj nt = true := by exact rfl) : LexS Try.prog nt lo ops K Om (⟨some d, op, ty, pos, after, some (q, w)⟩ :: rest) e G := S_g Tb_ok hj hg h hd hdj hn
theorem zSY (hn : LexS Try.prog nt lo ops K Om rest ((d, (.yl n)) :: e) G) (h : ave Tb Om (ev e) op = some (c, (.yl n)) := by exact rfl) (hc : c := by first | exact ⟨trivial, trivial⟩ | exact ⟨trivial, rfl⟩ | exact ⟨trivial, True.intro⟩) (hd : Nat.blt d nt = true := by exact rfl) : LexS Try.prog nt lo ops K Om (⟨some d, op, ty, pos, after, none⟩ :: rest) e G := S_v Tb_ok (av h hc) hd hn
theorem zgSY (hn : LexS Try.prog nt lo ops K Om rest ((d, .gd g (.yl n)) :: e) G) (hj : (ops[q]?).bind (·.dst) = some dj := by exact rfl) (hg : gcond w (get e dj) = some g := by exact rfl) (h : g = true → Av Tb Om (ev e) op (.yl n) := by intro hg; refine av rfl ?_; repeat' (first | exact trivial | exact hg | exact rfl | refine And.intro ?_ ?_ | (simp_all; done) | (simp at hg ⊢; simp [hg]; done))) (hd : Nat.blt d nt = true := by exact rfl) (hdj : Nat.blt dj nt = true := by exact rfl) : LexS Try.prog nt lo ops K Om (⟨some d, op, ty, pos, after, some (q, w)⟩ :: rest) e G := S_g Tb_ok hj hg h hd hdj hn
theorem zSU (hn : LexS Try.prog nt lo ops K Om rest ((d, v) :: e) G) (h : ave Tb Om (ev e) op = some (c, v) := by exact rfl) (hc : c := by first | exact ⟨trivial, trivial⟩ | exact ⟨trivial, rfl⟩ | exact ⟨trivial, True.intro⟩) (hd : Nat.blt d nt = true := by exact rfl) : LexS Try.prog nt lo ops K Om (⟨some d, op, ty, pos, after, none⟩ :: rest) e G := S_v Tb_ok (av h hc) hd hn
theorem zgSU (hn : LexS Try.prog nt lo ops K Om rest ((d, .gd g v) :: e) G) (hj : (ops[q]?).bind (·.dst) = some dj := by exact rfl) (hg : gcond w (get e dj) = some g := by exact rfl) (h : g = true → Av Tb Om (ev e) op v := by intro hg; refine av rfl ?_; repeat' (first | exact trivial | exact hg | exact rfl | refine And.intro ?_ ?_ | (simp_all; done) | (simp at hg ⊢; simp [hg]; done))) (hd : Nat.blt d nt = true := by exact rfl) (hdj : Nat.blt dj nt = true := by exact rfl) : LexS Try.prog nt lo ops K Om (⟨some d, op, ty, pos, after, some (q, w)⟩ :: rest) e G := S_g Tb_ok hj hg h hd hdj hn
theorem zSG (l : List AV) (hn : LexS Try.prog nt lo ops K Om rest ((d, (.agg l)) :: e) G) (h : ave Tb Om (ev e) op = some (c, (.agg l)) := by exact rfl) (hc : c := by first | exact ⟨trivial, trivial⟩ | exact ⟨trivial, rfl⟩ | exact ⟨trivial, True.intro⟩) (hd : Nat.blt d nt = true := by exact rfl) : LexS Try.prog nt lo ops K Om (⟨some d, op, ty, pos, after, none⟩ :: rest) e G := S_v Tb_ok (av h hc) hd hn
theorem zgSG (l : List AV) (hn : LexS Try.prog nt lo ops K Om rest ((d, .gd g (.agg l)) :: e) G) (hj : (ops[q]?).bind (·.dst) = some dj := by exact rfl) (hg : gcond w (get e dj) = some g := by exact rfl) (h : g = true → Av Tb Om (ev e) op (.agg l) := by intro hg; refine av rfl ?_; repeat' (first | exact trivial | exact hg | exact rfl | refine And.intro ?_ ?_ | (simp_all; done) | (simp at hg ⊢; simp [hg]; done))) (hd : Nat.blt d nt = true := by exact rfl) (hdj : Nat.blt dj nt = true := by exact rfl) : LexS Try.prog nt lo ops K Om (⟨some d, op, ty, pos, after, some (q, w)⟩ :: rest) e G := S_g Tb_ok hj hg h hd hdj hn
theorem zST (l : List AV) (hn : LexS Try.prog nt lo ops K Om rest ((d, (.tup l)) :: e) G) (h : ave Tb Om (ev e) op = some (c, (.tup l)) := by exact rfl) (hc : c := by first | exact ⟨trivial, trivial⟩ | exact ⟨trivial, rfl⟩ | exact ⟨trivial, True.intro⟩) (hd : Nat.blt d nt = true := by exact rfl) : LexS Try.prog nt lo ops K Om (⟨some d, op, ty, pos, after, none⟩ :: rest) e G := S_v Tb_ok (av h hc) hd hn
theorem zgST (l : List AV) (hn : LexS Try.prog nt lo ops K Om rest ((d, .gd g (.tup l)) :: e) G) (hj : (ops[q]?).bind (·.dst) = some dj := by exact rfl) (hg : gcond w (get e dj) = some g := by exact rfl) (h : g = true → Av Tb Om (ev e) op (.tup l) := by intro hg; refine av rfl ?_; repeat' (first | exact trivial | exact hg | exact rfl | refine And.intro ?_ ?_ | (simp_all; done) | (simp at hg ⊢; simp [hg]; done))) (hd : Nat.blt d nt = true := by exact rfl) (hdj : Nat.blt dj nt = true := by exact rfl) : LexS Try.prog nt lo ops K Om (⟨some d, op, ty, pos, after, some (q, w)⟩ :: rest) e G := S_g Tb_ok hj hg h hd hdj hn
theorem zpSI (hn : LexS Try.prog nt lo ops K Om rest ((d, (.int k z)) :: e) G) (h : ave Tb Om (ev e) op = some (c, (.int k z)) := by exact rfl) (hc : c := by refine ⟨?_, fun h => ?_, fun h => ?_⟩ <;> first | exact True.intro | exact ⟨h, True.intro⟩ | (refine ⟨?_, True.intro⟩; first | (rw [h]; done) | (rw [h]; rfl) | (simp [h]; done) | (simp at h hg ⊢; simp [h, hg]; done) | (simp_all; done) | (simp_all; omega))) (hd : Nat.blt d nt = true := by exact rfl) : LexS Try.prog nt lo ops K Om (⟨some d, op, ty, pos, after, none⟩ :: rest) e G := S_v Tb_ok (av h hc) hd hn
theorem zqSI (hn : LexS Try.prog nt lo ops K Om rest ((d, .gd g (.int k z)) :: e) G) (hj : (ops[q]?).bind (·.dst) = some dj := by exact rfl) (hg : gcond w (get e dj) = some g := by exact rfl) (h : g = true → Av Tb Om (ev e) op (.int k z) := by intro hg; refine av rfl (by refine ⟨?_, fun h => ?_, fun h => ?_⟩ <;> first | exact True.intro | exact ⟨h, True.intro⟩ | (refine ⟨?_, True.intro⟩; first | (rw [h]; done) | (rw [h]; rfl) | (simp [h]; done) | (simp at h hg ⊢; simp [h, hg]; done) | (simp_all; done) | (simp_all; omega)))) (hd : Nat.blt d nt = true := by exact rfl) (hdj : Nat.blt dj nt = true := by exact rfl) : LexS Try.prog nt lo ops K Om (⟨some d, op, ty, pos, after, some (q, w)⟩ :: rest) e G := S_g Tb_ok hj hg h hd hdj hn
theorem zpSB (hn : LexS Try.prog nt lo ops K Om rest ((d, (.bool b)) :: e) G) (h : ave Tb Om (ev e) op = some (c, (.bool b)) := by exact rfl) (hc : c := by refine ⟨?_, fun h => ?_, fun h => ?_⟩ <;> first | exact True.intro | exact ⟨h, True.intro⟩ | (refine ⟨?_, True.intro⟩; first | (rw [h]; done) | (rw [h]; rfl) | (simp [h]; done) | (simp at h hg ⊢; simp [h, hg]; done) | (simp_all; done) | (simp_all; omega))) (hd : Nat.blt d nt = true := by exact rfl) : LexS Try.prog nt lo ops K Om (⟨some d, op, ty, pos, after, none⟩ :: rest) e G := S_v Tb_ok (av h hc) hd hn
theorem zqSB (hn : LexS Try.prog nt lo ops K Om rest ((d, .gd g (.bool b)) :: e) G) (hj : (ops[q]?).bind (·.dst) = some dj := by exact rfl) (hg : gcond w (get e dj) = some g := by exact rfl) (h : g = true → Av Tb Om (ev e) op (.bool b) := by intro hg; refine av rfl (by refine ⟨?_, fun h => ?_, fun h => ?_⟩ <;> first | exact True.intro | exact ⟨h, True.intro⟩ | (refine ⟨?_, True.intro⟩; first | (rw [h]; done) | (rw [h]; rfl) | (simp [h]; done) | (simp at h hg ⊢; simp [h, hg]; done) | (simp_all; done) | (simp_all; omega)))) (hd : Nat.blt d nt = true := by exact rfl) (hdj : Nat.blt dj nt = true := by exact rfl) : LexS Try.prog nt lo ops K Om (⟨some d, op, ty, pos, after, some (q, w)⟩ :: rest) e G := S_g Tb_ok hj hg h hd hdj hn
theorem zSc {cl : Call} {as_ bs : List AV} {r : AV} (hr : Ok Try.prog f bs r) (hn : LexS Try.prog nt lo ops K Om rest ((d, r) :: e) G) (h : aCall (ev e) cl = some (c, f, as_) := by exact rfl) (hc : c := by exact trivial) (hb : as_.map demA = bs := by exact rfl) (hg : bs.all grA = true := by exact rfl) (hd : Nat.blt d nt = true := by exact rfl) : LexS Try.prog nt lo ops K Om (⟨some d, .call cl, ty, pos, after, none⟩ :: rest) e G := S_call h hd hc hb hg hr hn
theorem zR {P : Program} {id : Nat} {l : List Oper} (h : WL P nt lo l.toArray l s Q) (hnd : nodef l = true := by exact rfl) : W P nt lo (.region id l.toArray false) s Q := W_region hnd h
theorem zn {P : Program} (h : Q .normal s) : WL P nt lo ops [] s Q := WL_nil h
theorem zs {P : Program} (h : W P nt lo x s (thenQ P nt lo y Q)) : W P nt lo (.seq x y) s Q := W_seq h
theorem zt {P : Program} (h : Q .ret s) : W P nt lo .ret s Q := W_ret h
theorem zk {P : Program} (h : Q .normal s) : W P nt lo .skip s Q := W_skip h
theorem zst (v : AV) (cs : List AV) (es' : List (List AV)) {t : Nat} {x y : Operand} {id i j : Nat} {oty osz ofz : Nat} {oes : List (List AV)} (hn : WL Try.prog nt lo ops rest ⟨e, (id, some ⟨oty, osz, ofz, es'⟩) :: O, K, nx⟩ Q) (hx : strip (ev e x) = .ptr id i j := by exact rfl) (hob : lk O id = some ⟨oty, osz, ofz, oes⟩ := by exact rfl) (hv : strip (ev e y) = v := by exact rfl) (hcs : v.cells = cs := by exact rfl) (hp : v.plain = true := by exact rfl) (hone : cs.all AV.one = true := by exact rfl) (hes : setEl oes i j cs = es' := by exact rfl) (hk : (Nat.beq (Tb.at t).size cs.length && !(Nat.beq cs.length 0) && Nat.ble (j + cs.length) osz) = true := by exact rfl) (hi : Nat.blt i oes.length = true := by exact rfl) (hf : Nat.ble ofz i = true := by exact rfl) (hs : sg (ev e x) ∧ sg (ev e y) := by exact ⟨trivial, trivial⟩) : WL Try.prog nt lo ops (⟨none, .store t x y, ty, pos, after, none⟩ :: rest) ⟨e, O, K, nx⟩ Q := L_store Tb_ok hx hob hv hcs hp hone hes hk hi hf hs hn
theorem zal (z : List AV) (n : Nat) {t : Nat} (hn : WL Try.prog nt lo ops rest ⟨(d, .ptr nx 0 0) :: e, (nx, some ⟨t, n, 0, [z]⟩) :: O, K, nx + 1⟩ Q) (hz : (Tb.at t).zero = z := by exact rfl) (hone : z.all AV.one = true := by exact rfl) (hn' : z.length = n := by exact rfl) (hzn : Nat.beq (Tb.at t).size 0 = false := by exact rfl) (hd : Nat.blt d nt = true := by exact rfl) : WL Try.prog nt lo ops (⟨some d, .alloc t, ty, pos, after, none⟩ :: rest) ⟨e, O, K, nx⟩ Q := L_alloc Tb_ok hz hone hn' hzn hd hn
theorem zbx (cs : List AV) (n : Nat) {t : Nat} {x : Operand} (hn : WL Try.prog nt lo ops rest ⟨(d, .ptr nx 0 0) :: e, (nx, some ⟨t, n, 0, [cs]⟩) :: O, K, nx + 1⟩ Q) (hv : strip (ev e x) = .agg cs := by exact rfl) (hone : cs.all AV.one = true := by exact rfl) (hn' : cs.length = n := by exact rfl) (hd : Nat.blt d nt = true := by exact rfl) (hsg : sg (ev e x) := by exact trivial) : WL Try.prog nt lo ops (⟨some d, .box t x, ty, pos, after, none⟩ :: rest) ⟨e, O, K, nx⟩ Q := L_box Tb_ok hv hone hn' hd hsg hn
end
end Go.AM
end
section
open Go Go.AM Go.Proofs
set_option maxRecDepth 10000
set_option linter.unusedVariables false
set_option linter.unusedSimpArgs false
namespace Go.AM
def inB (n lo hi : Int) : Bool := decide (lo ≤ n) && decide (n ≤ hi)
theorem ref06_in (n lo hi : Int) : Ok Try.prog 124 [.int .i64 n, .int .i64 lo, .int .i64 hi] (.bool (inB n lo hi)) := by
  refine fn_ok Tb_ok (fn := Try.f124) Try.func124 rfl rfl (e := [(0, _), (1, _), (2, _)]) rfl (by decide) rfl ?_
  refine zs ?_
  refine zR ?_
  refine zLB ?_
  refine zn ?_
  refine zs ?_
  refine zR ?_
  refine zLI ?_
  refine zLI ?_
  refine zLB ?_
  refine zLB ?_
  refine zgLI ?_
  refine zgLI ?_
  refine zgLB ?_
  refine zpLB ?_
  refine zLB ?_
  refine zn ?_
  refine zt ?_
  refine ends (l := [.bool _]) (q := .bool _) (.inr rfl) rfl ⟨trivial, trivial⟩ rfl rfl ?_
  simp [inB]
theorem within (n lo hi : Int) : Ok Try.prog 108 [.int .i64 n, .int .i64 lo, .int .i64 hi] (.bool (inB n lo hi)) := by
  refine fn_ok Tb_ok (fn := Try.f108) Try.func108 rfl rfl (e := [(0, _), (1, _), (2, _)]) rfl (by decide) rfl ?_
  refine zs ?_
  refine zR ?_
  refine zLB ?_
  refine zn ?_
  refine zs ?_
  refine zR ?_
  refine zLI ?_
  refine zLI ?_
  refine zLB ?_
  refine zLB ?_
  refine zgLI ?_
  refine zgLI ?_
  refine zgLB ?_
  refine zpLB ?_
  refine zLB ?_
  refine zn ?_
  refine zt ?_
  refine ends (l := [.bool _]) (q := .bool _) (.inr rfl) rfl ⟨trivial, trivial⟩ rfl rfl ?_
  simp [inB]
theorem ref08_values (n : Int) : Ok Try.prog 102 [.int .i64 n] (.bool (inB n (-128) 127)) := by
  refine fn_ok Tb_ok (fn := Try.f102) Try.func102 rfl rfl (e := [(0, _)]) rfl (by decide) rfl ?_
  refine zs ?_
  refine zR ?_
  refine zLB ?_
  refine zn ?_
  refine zs ?_
  refine zR ?_
  refine zLI ?_
  refine zLB ?_
  refine zLB ?_
  refine zgLI ?_
  refine zgLB ?_
  refine zpLB ?_
  refine zLB ?_
  refine zn ?_
  refine zt ?_
  refine ends (l := [.bool _]) (q := .bool _) (.inr rfl) rfl ⟨trivial, trivial⟩ rfl rfl ?_
  simp [inB]
theorem ref08_Reduces (n : Int) : Ok Try.prog 92 [.int .i64 n] (.bool (inB n 1 4)) := by
  refine fn_ok Tb_ok (fn := Try.f92) Try.func92 rfl rfl (e := [(0, _)]) rfl (by decide) rfl ?_
  refine zs ?_
  refine zR ?_
  refine zLB ?_
  refine zn ?_
  refine zs ?_
  refine zR ?_
  refine zLI ?_
  refine zLB ?_
  refine zLB ?_
  refine zgLI ?_
  refine zgLB ?_
  refine zpLB ?_
  refine zLB ?_
  refine zn ?_
  refine zt ?_
  refine ends (l := [.bool _]) (q := .bool _) (.inr rfl) rfl ⟨trivial, trivial⟩ rfl rfl ?_
  simp [inB]
theorem model_Reduces (n : Int) : Ok Try.prog 87 [.int .i64 n] (.bool (inB n 1 4)) := by
  refine fn_ok Tb_ok (fn := Try.f87) Try.func87 rfl rfl (e := [(0, _)]) rfl (by decide) rfl ?_
  refine zs ?_
  refine zR ?_
  refine zLB ?_
  refine zn ?_
  refine zs ?_
  refine zs ?_
  refine zR ?_
  refine zLI ?_
  refine zn ?_
  refine W_block ?_
  refine zs ?_
  refine zs ?_
  refine zR ?_
  refine zLB ?_
  refine zLB ?_
  refine zn ?_
  refine W_cond (b := _) rfl (fun h4 => ?_) (fun h4 => ?_)
  · refine zk ?_
    refine W_cond (b := _) rfl (fun h4_1 => ?_) (fun h4_1 => ?_)
    · refine zs ?_
      refine zR ?_
      refine zLB ?_
      refine zn ?_
      refine zt ?_
      refine ends (l := [.bool _]) (q := .bool _) (.inr rfl) rfl ⟨trivial, trivial⟩ rfl rfl ?_
      simp_all [inB] <;> omega
    · refine zk ?_
      refine zs ?_
      refine zR ?_
      refine zLB ?_
      refine zn ?_
      refine zt ?_
      refine ends (l := [.bool _]) (q := .bool _) (.inr rfl) rfl ⟨trivial, trivial⟩ rfl rfl ?_
      simp_all [inB] <;> omega
  · refine zs ?_
    refine zR ?_
    refine zLB ?_
    refine zLB ?_
    refine zn ?_
    refine W_cond (b := _) rfl (fun h4_2 => ?_) (fun h4_2 => ?_)
    · refine zk ?_
      refine W_cond (b := _) rfl (fun h4_3 => ?_) (fun h4_3 => ?_)
      · refine zs ?_
        refine zR ?_
        refine zLB ?_
        refine zn ?_
        refine zt ?_
        refine ends (l := [.bool _]) (q := .bool _) (.inr rfl) rfl ⟨trivial, trivial⟩ rfl rfl ?_
        simp_all [inB] <;> omega
      · refine zk ?_
        refine zs ?_
        refine zR ?_
        refine zLB ?_
        refine zn ?_
        refine zt ?_
        refine ends (l := [.bool _]) (q := .bool _) (.inr rfl) rfl ⟨trivial, trivial⟩ rfl rfl ?_
        simp_all [inB] <;> omega
    · refine zs ?_
      refine zR ?_
      refine zLB ?_
      refine zLB ?_
      refine zn ?_
      refine W_cond (b := _) rfl (fun h4_4 => ?_) (fun h4_4 => ?_)
      · refine zk ?_
        refine W_cond (b := _) rfl (fun h4_5 => ?_) (fun h4_5 => ?_)
        · refine zs ?_
          refine zR ?_
          refine zLB ?_
          refine zn ?_
          refine zt ?_
          refine ends (l := [.bool _]) (q := .bool _) (.inr rfl) rfl ⟨trivial, trivial⟩ rfl rfl ?_
          simp_all [inB] <;> omega
        · refine zk ?_
          refine zs ?_
          refine zR ?_
          refine zLB ?_
          refine zn ?_
          refine zt ?_
          refine ends (l := [.bool _]) (q := .bool _) (.inr rfl) rfl ⟨trivial, trivial⟩ rfl rfl ?_
          simp_all [inB] <;> omega
      · refine zR ?_
        refine zLB ?_
        refine zLB ?_
        refine zn ?_
        refine W_cond (b := _) rfl (fun h4_6 => ?_) (fun h4_6 => ?_)
        · refine zs ?_
          refine zR ?_
          refine zLB ?_
          refine zn ?_
          refine zt ?_
          refine ends (l := [.bool _]) (q := .bool _) (.inr rfl) rfl ⟨trivial, trivial⟩ rfl rfl ?_
          simp_all [inB] <;> omega
        · refine zk ?_
          refine zs ?_
          refine zR ?_
          refine zLB ?_
          refine zn ?_
          refine zt ?_
          refine ends (l := [.bool _]) (q := .bool _) (.inr rfl) rfl ⟨trivial, trivial⟩ rfl rfl ?_
          simp_all [inB] <;> omega
theorem ref05_dim (n : Int) : Ok Try.prog 117 [.int .i64 n] (.bool (inB n 1 1024)) := by
  refine fn_ok Tb_ok (fn := Try.f117) Try.func117 rfl rfl (e := [(0, _)]) rfl (by decide) rfl ?_
  refine zs ?_
  refine zR ?_
  refine zLB ?_
  refine zn ?_
  refine zs ?_
  refine zR ?_
  refine zLI ?_
  refine zLB ?_
  refine zLB ?_
  refine zgLI ?_
  refine zgLB ?_
  refine zpLB ?_
  refine zLB ?_
  refine zn ?_
  refine zt ?_
  refine ends (l := [.bool _]) (q := .bool _) (.inr rfl) rfl ⟨trivial, trivial⟩ rfl rfl ?_
  simp [inB]
def elems (s : Shape) : Int := w64 (w64 (s.H * s.W) * s.C)
def shapeB (s : Shape) : Bool := inB s.H 1 1024 && inB s.W 1 1024 && inB s.C 1 1024 && decide (elems s ≤ 16384)
theorem ref05_Valid (s : Shape) : Ok Try.prog 101 [.agg (shapeC s)] (.bool (shapeB s)) := by
  refine fn_ok Tb_ok (fn := Try.f101) Try.func101 rfl rfl (e := [(0, _)]) rfl (by decide) rfl ?_
  refine zs ?_
  refine zR ?_
  refine zbx [.int _ _, .int _ _, .int _ _] 3 ?_
  refine zLB ?_
  refine zn ?_
  refine zs ?_
  refine zR ?_
  refine zLP ?_
  refine zLI ?_
  refine zLc (ref05_dim _) ?_
  refine zLB ?_
  refine zgLP ?_
  refine zgLI ?_
  refine L_callg (hr := fun hg => ref05_dim _) rfl rfl rfl rfl rfl (fun hg => ⟨⟨(by exact hg), True.intro⟩, True.intro⟩) rfl rfl ?_
  refine zpLB ?_
  refine zLB ?_
  refine zgLP ?_
  refine zgLI ?_
  refine L_callg (hr := fun hg => ref05_dim _) rfl rfl rfl rfl rfl (fun hg => ⟨⟨(by exact hg), True.intro⟩, True.intro⟩) rfl rfl ?_
  refine zpLB ?_
  refine zLB ?_
  refine zgLP ?_
  refine zgLI ?_
  refine zgLP ?_
  refine zgLI ?_
  refine zgLI ?_
  refine zgLP ?_
  refine zgLI ?_
  refine zgLI ?_
  refine zgLB ?_
  refine zpLB ?_
  refine zLB ?_
  refine zn ?_
  refine zt ?_
  refine ends (l := [.bool _]) (q := .bool _) (.inr rfl) rfl ⟨trivial, trivial⟩ rfl rfl ?_
  (simp only [Bool.cond_false_right]; rfl)
def sideB (k step a b : Int) : Bool := inB k 1 32 && inB step 1 32 && inB a 0 (w64 (k - 1)) && inB b 0 (w64 (k - 1))
theorem window_side (k step a b : Int) : Ok Try.prog 127 [.int .i64 k, .int .i64 step, .int .i64 a, .int .i64 b] (.bool (sideB k step a b)) := by
  refine fn_ok Tb_ok (fn := Try.f127) Try.func127 rfl rfl (e := [(0, _), (1, _), (2, _), (3, _)]) rfl (by decide) rfl ?_
  refine zs ?_
  refine zR ?_
  refine zLB ?_
  refine zn ?_
  refine zs ?_
  refine zR ?_
  refine zLI ?_
  refine zLc (within _ _ _) ?_
  refine zLB ?_
  refine zgLI ?_
  refine L_callg (hr := fun hg => within _ _ _) rfl rfl rfl rfl rfl (fun hg => ⟨⟨(by exact hg), True.intro⟩, True.intro⟩) rfl rfl ?_
  refine zpLB ?_
  refine zLB ?_
  refine zgLI ?_
  refine zgLI ?_
  refine zgLI ?_
  refine L_callg (hr := fun hg => within _ _ _) rfl rfl rfl rfl rfl (fun hg => ⟨⟨(by exact hg), True.intro⟩, ⟨⟨(by exact hg), True.intro⟩, True.intro⟩⟩) rfl rfl ?_
  refine zpLB ?_
  refine zLB ?_
  refine zgLI ?_
  refine zgLI ?_
  refine zgLI ?_
  refine L_callg (hr := fun hg => within _ _ _) rfl rfl rfl rfl rfl (fun hg => ⟨⟨(by exact hg), True.intro⟩, ⟨⟨(by exact hg), True.intro⟩, True.intro⟩⟩) rfl rfl ?_
  refine zpLB ?_
  refine zLB ?_
  refine zn ?_
  refine zt ?_
  refine ends (l := [.bool _]) (q := .bool _) (.inr rfl) rfl ⟨trivial, trivial⟩ rfl rfl ?_
  simp [sideB, w64]
def windowB (w : Window) : Bool := sideB w.KH w.SH w.Top w.Bottom && sideB w.KW w.SW w.Left w.Right
theorem window_Valid (w : Window) : Ok Try.prog 123 [.agg (windowC w)] (.bool (windowB w)) := by
  refine fn_ok Tb_ok (fn := Try.f123) Try.func123 rfl rfl (e := [(0, _)]) rfl (by decide) rfl ?_
  refine zs ?_
  refine zR ?_
  refine zbx [.int _ _, .int _ _, .int _ _, .int _ _, .int _ _, .int _ _, .int _ _, .int _ _] 8 ?_
  refine zLB ?_
  refine zn ?_
  refine zs ?_
  refine zR ?_
  refine zLP ?_
  refine zLI ?_
  refine zLP ?_
  refine zLI ?_
  refine zLP ?_
  refine zLI ?_
  refine zLP ?_
  refine zLI ?_
  refine zLc (window_side _ _ _ _) ?_
  refine zLB ?_
  refine zgLP ?_
  refine zgLI ?_
  refine zgLP ?_
  refine zgLI ?_
  refine zgLP ?_
  refine zgLI ?_
  refine zgLP ?_
  refine zgLI ?_
  refine L_callg (hr := fun hg => window_side _ _ _ _) rfl rfl rfl rfl rfl (fun hg => ⟨⟨(by exact hg), True.intro⟩, ⟨⟨(by exact hg), True.intro⟩, ⟨⟨(by exact hg), True.intro⟩, ⟨⟨(by exact hg), True.intro⟩, True.intro⟩⟩⟩⟩) rfl rfl ?_
  refine zpLB ?_
  refine zLB ?_
  refine zn ?_
  refine zt ?_
  refine ends (l := [.bool _]) (q := .bool _) (.inr rfl) rfl ⟨trivial, trivial⟩ rfl rfl ?_
  simp [windowB]
theorem ref06_Valid (w : Window) : Ok Try.prog 109 [.agg (windowC w)] (.bool (windowB w)) := by
  refine fn_ok Tb_ok (fn := Try.f109) Try.func109 rfl rfl (e := [(0, _)]) rfl (by decide) rfl ?_
  refine zs ?_
  refine zR ?_
  refine zbx [.int _ _, .int _ _, .int _ _, .int _ _, .int _ _, .int _ _, .int _ _, .int _ _] 8 ?_
  refine zLB ?_
  refine zn ?_
  refine zs ?_
  refine zR ?_
  refine zLP ?_
  refine zLI ?_
  refine zLc (ref06_in _ _ _) ?_
  refine zLB ?_
  refine zgLP ?_
  refine zgLI ?_
  refine L_callg (hr := fun hg => ref06_in _ _ _) rfl rfl rfl rfl rfl (fun hg => ⟨⟨(by exact hg), True.intro⟩, True.intro⟩) rfl rfl ?_
  refine zpLB ?_
  refine zLB ?_
  refine zgLP ?_
  refine zgLI ?_
  refine L_callg (hr := fun hg => ref06_in _ _ _) rfl rfl rfl rfl rfl (fun hg => ⟨⟨(by exact hg), True.intro⟩, True.intro⟩) rfl rfl ?_
  refine zpLB ?_
  refine zLB ?_
  refine zgLP ?_
  refine zgLI ?_
  refine L_callg (hr := fun hg => ref06_in _ _ _) rfl rfl rfl rfl rfl (fun hg => ⟨⟨(by exact hg), True.intro⟩, True.intro⟩) rfl rfl ?_
  refine zpLB ?_
  refine zLB ?_
  refine zgLP ?_
  refine zgLI ?_
  refine zgLP ?_
  refine zgLI ?_
  refine zgLI ?_
  refine L_callg (hr := fun hg => ref06_in _ _ _) rfl rfl rfl rfl rfl (fun hg => ⟨⟨(by exact hg), True.intro⟩, ⟨⟨(by exact hg), True.intro⟩, True.intro⟩⟩) rfl rfl ?_
  refine zpLB ?_
  refine zLB ?_
  refine zgLP ?_
  refine zgLI ?_
  refine zgLP ?_
  refine zgLI ?_
  refine zgLI ?_
  refine L_callg (hr := fun hg => ref06_in _ _ _) rfl rfl rfl rfl rfl (fun hg => ⟨⟨(by exact hg), True.intro⟩, ⟨⟨(by exact hg), True.intro⟩, True.intro⟩⟩) rfl rfl ?_
  refine zpLB ?_
  refine zLB ?_
  refine zgLP ?_
  refine zgLI ?_
  refine zgLP ?_
  refine zgLI ?_
  refine zgLI ?_
  refine L_callg (hr := fun hg => ref06_in _ _ _) rfl rfl rfl rfl rfl (fun hg => ⟨⟨(by exact hg), True.intro⟩, ⟨⟨(by exact hg), True.intro⟩, True.intro⟩⟩) rfl rfl ?_
  refine zpLB ?_
  refine zLB ?_
  refine zgLP ?_
  refine zgLI ?_
  refine zgLP ?_
  refine zgLI ?_
  refine zgLI ?_
  refine L_callg (hr := fun hg => ref06_in _ _ _) rfl rfl rfl rfl rfl (fun hg => ⟨⟨(by exact hg), True.intro⟩, ⟨⟨(by exact hg), True.intro⟩, True.intro⟩⟩) rfl rfl ?_
  refine zpLB ?_
  refine zLB ?_
  refine zn ?_
  refine zt ?_
  refine ends (l := [.bool _]) (q := .bool _) (.inr rfl) rfl ⟨trivial, trivial⟩ rfl rfl ?_
  simp only [windowB, sideB, w64, Bool.cond_false_right]; congr 1; ac_rfl
def shapeE (s : Shape) : Int := bif shapeB s then 0 else 50
def elemsR (s : Shape) : Int := bif shapeB s then elems s else 0
theorem notIn {x lo hi : Int} {b : Bool} (h : (bif decide (x < lo) then true else decide (x > hi)) = b) : inB x lo hi = !b := by
  subst h; simp [inB]
  by_cases h1 : x < lo <;> by_cases h2 : x > hi <;> simp [h1, h2] <;> omega
theorem one_wrap {x : Int} (h : inB x 1 1024 = true) : IntKind.i64.wrap (1 * x) = x := by
  simp [inB] at h; rw [w64_id] <;> omega
theorem shape_Elems (s : Shape) : Ok Try.prog 98 [.agg (shapeC s)] (.tup [.int .i64 (elemsR s), .int .i64 (shapeE s)]) := by
  refine fn_ok Tb_ok (fn := Try.f98) Try.func98 rfl rfl (e := [(0, _)]) rfl (by decide) rfl ?_
  refine zs ?_
  refine zR ?_
  refine zbx [.int _ _, .int _ _, .int _ _] 3 ?_
  refine zLI ?_
  refine zLI ?_
  refine zn ?_
  refine zs ?_
  refine zR ?_
  refine zLI ?_
  refine zn ?_
  refine zs ?_
  refine zs ?_
  refine zR ?_
  refine zLP ?_
  refine zLI ?_
  refine zLP ?_
  refine zLI ?_
  refine zLP ?_
  refine zLI ?_
  refine zLG [.int _ _, .int _ _, .int _ _] ?_
  refine zLI ?_
  refine zn ?_
  refine W_block ?_
  refine W_loop_of ?_
  refine LoopW_once ?_
  refine zs ?_
  refine zR ?_
  refine zLB ?_
  refine zn ?_
  refine zs ?_
  refine W_cond_t (b := _) rfl (by rfl) ?_
  refine zk ?_
  refine zs ?_
  refine W_block ?_
  refine zs ?_
  refine zR ?_
  refine L_v Tb_ok (v := .int _ _) (av rfl ⟨trivial, ⟨by first | omega | assumption | decide | (simp_all; done) | (simp_all; omega), by first | omega | assumption | decide | (simp_all; done) | (simp_all; omega)⟩, rfl⟩) rfl ?_
  refine zLI ?_
  refine zn ?_
  refine zs ?_
  refine zs ?_
  refine zR ?_
  refine zLI ?_
  refine zLB ?_
  refine zLB ?_
  refine zgLI ?_
  refine zgLB ?_
  refine zpLB ?_
  refine zn ?_
  refine W_cond (b := _) rfl (fun h22 => ?_) (fun h22 => ?_)
  · refine zs ?_
    refine zR ?_
    refine zLI ?_
    refine zLI ?_
    refine zn ?_
    refine zt ?_
    refine ends (l := [.int _ _, .int _ _]) (q := .tup [.int _ _, .int _ _]) (.inr rfl) rfl ⟨trivial, trivial, trivial⟩ rfl rfl ?_
    first
    | (simp [shapeB, shapeE, elemsR, notIn h22]; done)
    | (simp [shapeB, shapeE, elemsR, notIn h22_1]; done)
    | (simp [shapeB, shapeE, elemsR, notIn h22_2]; done)
    | (rw [one_wrap (notIn h22)] at *
       have h28' : decide (elems s > 16384) = _ := h28
       have hB : shapeB s = decide (elems s ≤ 16384) := by simp [shapeB, notIn h22, notIn h22_1, notIn h22_2]
       have hC : decide (elems s ≤ 16384) = !decide (elems s > 16384) := by by_cases h : elems s ≤ 16384 <;> simp [h] <;> omega
       simp [shapeE, elemsR, hB, hC, h28']
       try rfl)
  · refine zk ?_
    refine zR ?_
    refine zLI ?_
    refine zLI ?_
    refine zLI ?_
    refine zLI ?_
    refine zn ?_
    refine zR ?_
    refine zLI ?_
    refine zLI ?_
    refine zn ?_
    refine LoopW_once ?_
    refine zs ?_
    refine zR ?_
    refine zLB ?_
    refine zn ?_
    refine zs ?_
    refine W_cond_t (b := _) rfl (by first | exact hc15 | rfl | decide | simp_all) ?_
    refine zk ?_
    refine zs ?_
    refine W_block ?_
    refine zs ?_
    refine zR ?_
    refine L_v Tb_ok (v := .int _ _) (av rfl ⟨trivial, ⟨by first | omega | assumption | decide | (simp_all; done) | (simp_all; omega), by first | omega | assumption | decide | (simp_all; done) | (simp_all; omega)⟩, rfl⟩) rfl ?_
    refine zLI ?_
    refine zn ?_
    refine zs ?_
    refine zs ?_
    refine zR ?_
    refine zLI ?_
    refine zLB ?_
    refine zLB ?_
    refine zgLI ?_
    refine zgLB ?_
    refine zpLB ?_
    refine zn ?_
    refine W_cond (b := _) rfl (fun h22_1 => ?_) (fun h22_1 => ?_)
    · refine zs ?_
      refine zR ?_
      refine zLI ?_
      refine zLI ?_
      refine zn ?_
      refine zt ?_
      refine ends (l := [.int _ _, .int _ _]) (q := .tup [.int _ _, .int _ _]) (.inr rfl) rfl ⟨trivial, trivial, trivial⟩ rfl rfl ?_
      first
      | (simp [shapeB, shapeE, elemsR, notIn h22]; done)
      | (simp [shapeB, shapeE, elemsR, notIn h22_1]; done)
      | (simp [shapeB, shapeE, elemsR, notIn h22_2]; done)
      | (rw [one_wrap (notIn h22)] at *
         have h28' : decide (elems s > 16384) = _ := h28
         have hB : shapeB s = decide (elems s ≤ 16384) := by simp [shapeB, notIn h22, notIn h22_1, notIn h22_2]
         have hC : decide (elems s ≤ 16384) = !decide (elems s > 16384) := by by_cases h : elems s ≤ 16384 <;> simp [h] <;> omega
         simp [shapeE, elemsR, hB, hC, h28']
         try rfl)
    · refine zk ?_
      refine zR ?_
      refine zLI ?_
      refine zLI ?_
      refine zLI ?_
      refine zLI ?_
      refine zn ?_
      refine zR ?_
      refine zLI ?_
      refine zLI ?_
      refine zn ?_
      refine LoopW_once ?_
      refine zs ?_
      refine zR ?_
      refine zLB ?_
      refine zn ?_
      refine zs ?_
      refine W_cond_t (b := _) rfl (by first | exact hc15 | rfl | decide | simp_all) ?_
      refine zk ?_
      refine zs ?_
      refine W_block ?_
      refine zs ?_
      refine zR ?_
      refine L_v Tb_ok (v := .int _ _) (av rfl ⟨trivial, ⟨by first | omega | assumption | decide | (simp_all; done) | (simp_all; omega), by first | omega | assumption | decide | (simp_all; done) | (simp_all; omega)⟩, rfl⟩) rfl ?_
      refine zLI ?_
      refine zn ?_
      refine zs ?_
      refine zs ?_
      refine zR ?_
      refine zLI ?_
      refine zLB ?_
      refine zLB ?_
      refine zgLI ?_
      refine zgLB ?_
      refine zpLB ?_
      refine zn ?_
      refine W_cond (b := _) rfl (fun h22_2 => ?_) (fun h22_2 => ?_)
      · refine zs ?_
        refine zR ?_
        refine zLI ?_
        refine zLI ?_
        refine zn ?_
        refine zt ?_
        refine ends (l := [.int _ _, .int _ _]) (q := .tup [.int _ _, .int _ _]) (.inr rfl) rfl ⟨trivial, trivial, trivial⟩ rfl rfl ?_
        first
        | (simp [shapeB, shapeE, elemsR, notIn h22]; done)
        | (simp [shapeB, shapeE, elemsR, notIn h22_1]; done)
        | (simp [shapeB, shapeE, elemsR, notIn h22_2]; done)
        | (rw [one_wrap (notIn h22)] at *
           have h28' : decide (elems s > 16384) = _ := h28
           have hB : shapeB s = decide (elems s ≤ 16384) := by simp [shapeB, notIn h22, notIn h22_1, notIn h22_2]
           have hC : decide (elems s ≤ 16384) = !decide (elems s > 16384) := by by_cases h : elems s ≤ 16384 <;> simp [h] <;> omega
           simp [shapeE, elemsR, hB, hC, h28']
           try rfl)
      · refine zk ?_
        refine zR ?_
        refine zLI ?_
        refine zLI ?_
        refine zLI ?_
        refine zLI ?_
        refine zn ?_
        refine zR ?_
        refine zLI ?_
        refine zLI ?_
        refine zn ?_
        refine LoopW_once ?_
        refine zs ?_
        refine zR ?_
        refine zLB ?_
        refine zn ?_
        refine zs ?_
        refine W_cond_f (b := _) rfl (by first | exact hc15 | rfl | decide | simp_all) ?_
        refine W_exit ?_
        repeat (first | refine pass_then ?_ | refine pass_once ?_ | refine pass_le ?_ | refine pass_round ?_ | refine pass_for ?_ | refine pass_jump ?_ | refine blockQ_miss rfl ?_)
        refine blockQ_hit ?_
        refine zs ?_
        refine zs ?_
        refine zR ?_
        refine zLI ?_
        refine zLB ?_
        refine zn ?_
        refine W_cond (b := _) rfl (fun h28 => ?_) (fun h28 => ?_)
        · refine zs ?_
          refine zR ?_
          refine zLI ?_
          refine zLI ?_
          refine zn ?_
          refine zt ?_
          refine ends (l := [.int _ _, .int _ _]) (q := .tup [.int _ _, .int _ _]) (.inr rfl) rfl ⟨trivial, trivial, trivial⟩ rfl rfl ?_
          first
          | (simp [shapeB, shapeE, elemsR, notIn h22]; done)
          | (simp [shapeB, shapeE, elemsR, notIn h22_1]; done)
          | (simp [shapeB, shapeE, elemsR, notIn h22_2]; done)
          | (rw [one_wrap (notIn h22)] at *
             have h28' : decide (elems s > 16384) = _ := h28
             have hB : shapeB s = decide (elems s ≤ 16384) := by simp [shapeB, notIn h22, notIn h22_1, notIn h22_2]
             have hC : decide (elems s ≤ 16384) = !decide (elems s > 16384) := by by_cases h : elems s ≤ 16384 <;> simp [h] <;> omega
             simp [shapeE, elemsR, hB, hC, h28']
             try rfl)
        · refine zk ?_
          refine zs ?_
          refine zR ?_
          refine zLI ?_
          refine zLI ?_
          refine zLI ?_
          refine zn ?_
          refine zt ?_
          refine ends (l := [.int _ _, .int _ _]) (q := .tup [.int _ _, .int _ _]) (.inr rfl) rfl ⟨trivial, trivial, trivial⟩ rfl rfl ?_
          first
          | (simp [shapeB, shapeE, elemsR, notIn h22]; done)
          | (simp [shapeB, shapeE, elemsR, notIn h22_1]; done)
          | (simp [shapeB, shapeE, elemsR, notIn h22_2]; done)
          | (rw [one_wrap (notIn h22)] at *
             have h28' : decide (elems s > 16384) = _ := h28
             have hB : shapeB s = decide (elems s ≤ 16384) := by simp [shapeB, notIn h22, notIn h22_1, notIn h22_2]
             have hC : decide (elems s ≤ 16384) = !decide (elems s > 16384) := by by_cases h : elems s ≤ 16384 <;> simp [h] <;> omega
             simp [shapeE, elemsR, hB, hC, h28']
             try rfl)
end Go.AM
end
section
open Go Go.AM Go.Proofs
set_option maxRecDepth 10000
set_option linter.unusedVariables false
set_option linter.unusedSimpArgs false
namespace Go.AM
/-- rows, columns that a window leaves -/
def spanH (s : Shape) (w : Window) : Int := w64 (w64 (w64 (s.H + w.Top) + w.Bottom) - w.KH)
def spanW (s : Shape) (w : Window) : Int := w64 (w64 (w64 (s.W + w.Left) + w.Right) - w.KW)
def outB (s : Shape) (w : Window) : Bool := !(decide (spanH s w < 0 ∨ spanW s w < 0))
def outE (s : Shape) (w : Window) : Int := if shapeB s then if windowB w then if spanH s w < 0 ∨ spanW s w < 0 then 60 else 0 else 60 else 50
def outH (s : Shape) (w : Window) : Int := if shapeB s then if windowB w then if spanH s w < 0 ∨ spanW s w < 0 then 0 else w64 (w64 ((spanH s w).tdiv w.SH) + 1) else 0 else 0
def outW (s : Shape) (w : Window) : Int := if shapeB s then if windowB w then if spanH s w < 0 ∨ spanW s w < 0 then 0 else w64 (w64 ((spanW s w).tdiv w.SW) + 1) else 0 else 0
theorem step_ne {w : Window} (h : windowB w = true) : w.SH ≠ 0 ∧ w.SW ≠ 0 := by
  simp [windowB, sideB, inB] at h; omega
theorem window_Out (s : Shape) (w : Window) : Ok Try.prog 105 [.agg (shapeC s), .agg (windowC w)] (.tup [.int .i64 (outH s w), .int .i64 (outW s w), .int .i64 (outE s w)]) := by
  refine fn_ok Tb_ok (fn := Try.f105) Try.func105 rfl rfl (e := [(0, _), (1, _)]) rfl (by decide) rfl ?_
  refine zs ?_
  refine zR ?_
  refine zbx [.int _ _, .int _ _, .int _ _] 3 ?_
  refine zbx [.int _ _, .int _ _, .int _ _, .int _ _, .int _ _, .int _ _, .int _ _, .int _ _] 8 ?_
  refine zLI ?_
  refine zLI ?_
  refine zLI ?_
  refine zn ?_
  refine zs ?_
  refine zs ?_
  refine zR ?_
  refine zLG [.int _ _, .int _ _, .int _ _] ?_
  refine zLc (shape_Elems s) ?_
  refine zLT [_, _] ?_
  refine zLI ?_
  refine zLI ?_
  refine zLI ?_
  refine zLI ?_
  refine zn ?_
  refine zs ?_
  refine zR ?_
  refine zLI ?_
  refine zLB ?_
  refine zn ?_
  refine W_cond (b := _) rfl (fun h17 => ?_) (fun h17 => ?_)
  · refine zs ?_
    refine zR ?_
    refine zLI ?_
    refine zLI ?_
    refine zLI ?_
    refine zLI ?_
    refine zn ?_
    refine zt ?_
    refine ends (l := [.int _ _, .int _ _, .int _ _]) (q := .tup [.int _ _, .int _ _, .int _ _]) (.inr rfl) rfl ⟨trivial, trivial, trivial, trivial⟩ rfl rfl ?_
    by_cases p : spanH s w < 0 ∨ spanW s w < 0 <;> cases hb : shapeB s <;> cases hw : windowB w <;> first
    | (exfalso; simp_all [shapeE]; done)
    | (simp [outE, outH, outW, hb, hw, p, shapeE]; done)
    | (simp [outE, outH, outW, hb, hw, p, shapeE]; simp [spanH, spanW, w64]; done)
    | (exfalso; simp [spanH, spanW, w64] at p h49; omega)
  · refine zk ?_
    refine zs ?_
    refine zs ?_
    refine zR ?_
    refine zLG [.int _ _, .int _ _, .int _ _, .int _ _, .int _ _, .int _ _, .int _ _, .int _ _] ?_
    refine zLc (window_Valid w) ?_
    refine zLB ?_
    refine zn ?_
    refine W_cond (b := _) rfl (fun h21 => ?_) (fun h21 => ?_)
    · refine zs ?_
      refine zR ?_
      refine zLI ?_
      refine zLI ?_
      refine zLI ?_
      refine zn ?_
      refine zt ?_
      refine ends (l := [.int _ _, .int _ _, .int _ _]) (q := .tup [.int _ _, .int _ _, .int _ _]) (.inr rfl) rfl ⟨trivial, trivial, trivial, trivial⟩ rfl rfl ?_
      by_cases p : spanH s w < 0 ∨ spanW s w < 0 <;> cases hb : shapeB s <;> cases hw : windowB w <;> first
      | (exfalso; simp_all [shapeE]; done)
      | (simp [outE, outH, outW, hb, hw, p, shapeE]; done)
      | (simp [outE, outH, outW, hb, hw, p, shapeE]; simp [spanH, spanW, w64]; done)
      | (exfalso; simp [spanH, spanW, w64] at p h49; omega)
    · refine zk ?_
      refine zs ?_
      refine W_draw 24 Tb_mixed rfl (by decide) (by kernel_rfl) (by kernel_rfl) ?_
      refine zEP ?_
      refine zEI ?_
      refine zEP ?_
      refine zEI ?_
      refine zEI ?_
      refine zEP ?_
      refine zEI ?_
      refine zEI ?_
      refine zEP ?_
      refine zEI ?_
      refine zEI ?_
      refine zEP ?_
      refine zEI ?_
      refine zEP ?_
      refine zEI ?_
      refine zEI ?_
      refine zEP ?_
      refine zEI ?_
      refine zEI ?_
      refine zEP ?_
      refine zEI ?_
      refine zEI ?_
      refine zEI ?_
      refine zEI ?_
      refine LexE_nil ?_
      refine zn ?_
      refine zs ?_
      refine zs ?_
      refine zR ?_
      refine zLI ?_
      refine zLB ?_
      refine zLB ?_
      refine zgLI ?_
      refine zgLB ?_
      refine zpLB ?_
      refine zn ?_
      refine W_cond (b := _) rfl (fun h49 => ?_) (fun h49 => ?_)
      · refine zs ?_
        refine zR ?_
        refine zLI ?_
        refine zLI ?_
        refine zLI ?_
        refine zn ?_
        refine zt ?_
        refine ends (l := [.int _ _, .int _ _, .int _ _]) (q := .tup [.int _ _, .int _ _, .int _ _]) (.inr rfl) rfl ⟨trivial, trivial, trivial, trivial⟩ rfl rfl ?_
        by_cases p : spanH s w < 0 ∨ spanW s w < 0 <;> cases hb : shapeB s <;> cases hw : windowB w <;> first
        | (exfalso; simp_all [shapeE]; done)
        | (simp [outE, outH, outW, hb, hw, p, shapeE]; done)
        | (simp [outE, outH, outW, hb, hw, p, shapeE]; simp [spanH, spanW, w64]; done)
        | (exfalso; simp [spanH, spanW, w64] at p h49; omega)
      · refine zk ?_
        refine zs ?_
        refine W_draw 13 Tb_mixed rfl (by decide) (by kernel_rfl) (by kernel_rfl) ?_
        refine zEI ?_
        refine zEP ?_
        refine zEI ?_
        refine E_v Tb_ok (v := .int _ _) (av rfl ⟨trivial, (by exact (step_ne (by simpa using h21)).1)⟩) rfl ?_
        refine zEI ?_
        refine zEI ?_
        refine zEP ?_
        refine zEI ?_
        refine E_v Tb_ok (v := .int _ _) (av rfl ⟨trivial, (by exact (step_ne (by simpa using h21)).2)⟩) rfl ?_
        refine zEI ?_
        refine zEI ?_
        refine zEI ?_
        refine zEI ?_
        refine LexE_nil ?_
        refine zn ?_
        refine zt ?_
        refine ends (l := [.int _ _, .int _ _, .int _ _]) (q := .tup [.int _ _, .int _ _, .int _ _]) (.inr rfl) rfl ⟨trivial, trivial, trivial, trivial⟩ rfl rfl ?_
        by_cases p : spanH s w < 0 ∨ spanW s w < 0 <;> cases hb : shapeB s <;> cases hw : windowB w <;> first
        | (exfalso; simp_all [shapeE]; done)
        | (simp [outE, outH, outW, hb, hw, p, shapeE]; done)
        | (simp [outE, outH, outW, hb, hw, p, shapeE]; simp [spanH, spanW, w64]; done)
        | (exfalso; simp [spanH, spanW, w64] at p h49; omega)
theorem fixq_Valid (s : Scale) : Ok Try.prog 116 [.agg (scaleC s)] (.bool (inB s.Mult 1 2147483647 && inB s.Shift 0 62)) := by
  refine fn_ok Tb_ok (fn := Try.f116) Try.func116 rfl rfl (e := [(0, _)]) rfl (by decide) rfl ?_
  refine zs ?_
  refine zR ?_
  refine zbx [.int _ _, .int _ _] 2 ?_
  refine zLB ?_
  refine zn ?_
  refine zs ?_
  refine zR ?_
  refine zLP ?_
  refine zLI ?_
  refine zLB ?_
  refine zLB ?_
  refine zgLP ?_
  refine zgLI ?_
  refine zgLB ?_
  refine zpLB ?_
  refine zLB ?_
  refine zgLP ?_
  refine zgLI ?_
  refine zgLB ?_
  refine zpLB ?_
  refine zLB ?_
  refine zgLP ?_
  refine zgLI ?_
  refine zgLB ?_
  refine zpLB ?_
  refine zLB ?_
  refine zn ?_
  refine zt ?_
  refine ends (l := [.bool _]) (q := .bool _) (.inr rfl) rfl ⟨trivial, trivial⟩ rfl rfl ?_
  simp [inB]; by_cases a : 0 < s.Mult <;> by_cases b : s.Mult < 2147483648 <;> simp [a, b] <;> omega
theorem ref02_Valid (a b : Int) : Ok Try.prog 122 [.int .i64 a, .int .i64 b] (.bool (inB a 1 2147483647 && inB b 0 62)) := by
  refine fn_ok Tb_ok (fn := Try.f122) Try.func122 rfl rfl (e := [(0, _), (1, _)]) rfl (by decide) rfl ?_
  refine zs ?_
  refine zR ?_
  refine zLB ?_
  refine zn ?_
  refine zs ?_
  refine zR ?_
  refine zLI ?_
  refine zLB ?_
  refine zLB ?_
  refine zgLI ?_
  refine zgLB ?_
  refine zpLB ?_
  refine zLB ?_
  refine zgLI ?_
  refine zgLB ?_
  refine zpLB ?_
  refine zLB ?_
  refine zgLI ?_
  refine zgLB ?_
  refine zpLB ?_
  refine zLB ?_
  refine zn ?_
  refine zt ?_
  refine ends (l := [.bool _]) (q := .bool _) (.inr rfl) rfl ⟨trivial, trivial⟩ rfl rfl ?_
  simp [inB, Bool.and_assoc]
theorem ref08_Weighs (n : Int) : Ok Try.prog 125 [.int .i64 n] (.bool (inB n 1 3)) := by
  refine fn_ok Tb_ok (fn := Try.f125) Try.func125 rfl rfl (e := [(0, _)]) rfl (by decide) rfl ?_
  refine zs ?_
  refine zR ?_
  refine zLB ?_
  refine zn ?_
  refine zs ?_
  refine zR ?_
  refine zLI ?_
  refine zLB ?_
  refine zLB ?_
  refine zgLI ?_
  refine zgLB ?_
  refine zpLB ?_
  refine zLB ?_
  refine zn ?_
  refine zt ?_
  refine ends (l := [.bool _]) (q := .bool _) (.inr rfl) rfl ⟨trivial, trivial⟩ rfl rfl ?_
  simp [inB]
theorem ref08_Slides (n : Int) : Ok Try.prog 126 [.int .i64 n] (.bool (inB n 2 5)) := by
  refine fn_ok Tb_ok (fn := Try.f126) Try.func126 rfl rfl (e := [(0, _)]) rfl (by decide) rfl ?_
  refine zs ?_
  refine zR ?_
  refine zLB ?_
  refine zn ?_
  refine zs ?_
  refine zR ?_
  refine zLI ?_
  refine zLB ?_
  refine zLB ?_
  refine zgLI ?_
  refine zgLB ?_
  refine zpLB ?_
  refine zLB ?_
  refine zn ?_
  refine zt ?_
  refine ends (l := [.bool _]) (q := .bool _) (.inr rfl) rfl ⟨trivial, trivial⟩ rfl rfl ?_
  simp [inB]
def scalesB (n : Int) : Bool := inB n 1 3 || n == 6 || n == 7
theorem ref08_Scales (n : Int) : Ok Try.prog 121 [.int .i64 n] (.bool (scalesB n)) := by
  refine fn_ok Tb_ok (fn := Try.f121) Try.func121 rfl rfl (e := [(0, _)]) rfl (by decide) rfl ?_
  refine zs ?_
  refine zR ?_
  refine zLB ?_
  refine zn ?_
  refine zs ?_
  refine zR ?_
  refine zLI ?_
  refine zLB ?_
  refine zLB ?_
  refine zgLI ?_
  refine zgLB ?_
  refine zpLB ?_
  refine zLB ?_
  refine zgLI ?_
  refine zgLB ?_
  refine zpLB ?_
  refine zLB ?_
  refine zgLI ?_
  refine zgLB ?_
  refine zpLB ?_
  refine zLB ?_
  refine zn ?_
  refine zt ?_
  refine ends (l := [.bool _]) (q := .bool _) (.inr rfl) rfl ⟨trivial, trivial⟩ rfl rfl ?_
  (simp_all [scalesB, inB]; done)
/-- how many terms each sum has -/
def lenF (o : MOp) (a : Shape) : Int := bif o.Kind == 1 then w64 (w64 (a.H * a.W) * a.C) else bif o.Kind == 2 then w64 (w64 (o.Win.KH * o.Win.KW) * a.C) else w64 (o.Win.KH * o.Win.KW)
theorem ref08_Length (o : MOp) (a : Shape) : Ok Try.prog 55 [.agg (opC o), .agg (shapeC a)] (.int .i64 (lenF o a)) := by
  refine fn_ok Tb_ok (fn := Try.f55) Try.func55 rfl rfl (e := [(0, _), (1, _)]) rfl (by decide) rfl ?_
  refine zs ?_
  refine zR ?_
  refine zbx [.int _ _, .int _ _, .int _ _, .int _ _, .int _ _, .int _ _, .int _ _, .int _ _, .int _ _, .int _ _, .int _ _, .int _ _, _, _, .int _ _, .int _ _, .int _ _, .int _ _, .int _ _, .int _ _, .int _ _, .int _ _] 22 ?_
  refine zbx [.int _ _, .int _ _, .int _ _] 3 ?_
  refine zLI ?_
  refine zn ?_
  refine zs ?_
  refine zs ?_
  refine zR ?_
  refine zLP ?_
  refine zLI ?_
  refine zn ?_
  refine W_block ?_
  refine zs ?_
  refine zR ?_
  refine zLB ?_
  refine zLB ?_
  refine zn ?_
  refine W_cond (b := _) rfl (fun h7 => ?_) (fun h7 => ?_)
  · refine zs ?_
    refine zR ?_
    refine zLP ?_
    refine zLI ?_
    refine zLP ?_
    refine zLI ?_
    refine zLI ?_
    refine zLP ?_
    refine zLI ?_
    refine zLI ?_
    refine zLI ?_
    refine zn ?_
    refine zt ?_
    refine ends (l := [.int _ _]) (q := .int _ _) (.inr rfl) rfl ⟨trivial, trivial⟩ rfl rfl ?_
    simp_all [lenF, w64, Bool.cond_eq_ite]
  · refine zs ?_
    refine zR ?_
    refine zLB ?_
    refine zLB ?_
    refine zn ?_
    refine W_cond (b := _) rfl (fun h17 => ?_) (fun h17 => ?_)
    · refine zs ?_
      refine zR ?_
      refine zLP ?_
      refine zLP ?_
      refine zLI ?_
      refine zLP ?_
      refine zLP ?_
      refine zLI ?_
      refine zLI ?_
      refine zLP ?_
      refine zLI ?_
      refine zLI ?_
      refine zLI ?_
      refine zn ?_
      refine zt ?_
      refine ends (l := [.int _ _]) (q := .int _ _) (.inr rfl) rfl ⟨trivial, trivial⟩ rfl rfl ?_
      simp_all [lenF, w64, Bool.cond_eq_ite]
    · refine zk ?_
      refine zs ?_
      refine zR ?_
      refine zLP ?_
      refine zLP ?_
      refine zLI ?_
      refine zLP ?_
      refine zLP ?_
      refine zLI ?_
      refine zLI ?_
      refine zLI ?_
      refine zn ?_
      refine zt ?_
      refine ends (l := [.int _ _]) (q := .int _ _) (.inr rfl) rfl ⟨trivial, trivial⟩ rfl rfl ?_
      simp_all [lenF, w64, Bool.cond_eq_ite]
def labF (o : MOp) (a t : Shape) : Int := bif inB o.Kind 1 4 then w64 (elems t * lenF o a) else bif o.Kind == 5 then w64 (w64 (elems t * o.Win.KH) * o.Win.KW) else elems t
theorem ref08_Labour (o : MOp) (a t : Shape) : Ok Try.prog 104 [.agg (opC o), .agg (shapeC a), .agg (shapeC t)] (.int .i64 (labF o a t)) := by
  refine fn_ok Tb_ok (fn := Try.f104) Try.func104 rfl rfl (e := [(0, _), (1, _), (2, _)]) rfl (by decide) rfl ?_
  refine zs ?_
  refine zR ?_
  refine zbx [.int _ _, .int _ _, .int _ _, .int _ _, .int _ _, .int _ _, .int _ _, .int _ _, .int _ _, .int _ _, .int _ _, .int _ _, _, _, .int _ _, .int _ _, .int _ _, .int _ _, .int _ _, .int _ _, .int _ _, .int _ _] 22 ?_
  refine zbx [.int _ _, .int _ _, .int _ _] 3 ?_
  refine zbx [.int _ _, .int _ _, .int _ _] 3 ?_
  refine zLI ?_
  refine zn ?_
  refine zs ?_
  refine zR ?_
  refine zLP ?_
  refine zLI ?_
  refine zLP ?_
  refine zLI ?_
  refine zLI ?_
  refine zLP ?_
  refine zLI ?_
  refine zLI ?_
  refine zLI ?_
  refine zn ?_
  refine zs ?_
  refine zs ?_
  refine zR ?_
  refine zLP ?_
  refine zLI ?_
  refine zLc (ref08_Reduces _) ?_
  refine zn ?_
  refine W_cond (b := _) rfl (fun h18 => ?_) (fun h18 => ?_)
  · refine zs ?_
    refine zR ?_
    refine zLI ?_
    refine zLG [.int _ _, .int _ _, .int _ _, .int _ _, .int _ _, .int _ _, .int _ _, .int _ _, .int _ _, .int _ _, .int _ _, .int _ _, _, _, .int _ _, .int _ _, .int _ _, .int _ _, .int _ _, .int _ _, .int _ _, .int _ _] ?_
    refine zLG [.int _ _, .int _ _, .int _ _] ?_
    refine zLc (ref08_Length o a) ?_
    refine zLI ?_
    refine zLI ?_
    refine zn ?_
    refine zt ?_
    refine ends (l := [.int _ _]) (q := .int _ _) (.inr rfl) rfl ⟨trivial, trivial⟩ rfl rfl ?_
    simp_all [labF, w64, elems, Bool.cond_eq_ite]
  · refine zk ?_
    refine zs ?_
    refine zs ?_
    refine zR ?_
    refine zLP ?_
    refine zLI ?_
    refine zLB ?_
    refine zn ?_
    refine W_cond (b := _) rfl (fun h26 => ?_) (fun h26 => ?_)
    · refine zs ?_
      refine zR ?_
      refine zLI ?_
      refine zLP ?_
      refine zLP ?_
      refine zLI ?_
      refine zLI ?_
      refine zLP ?_
      refine zLP ?_
      refine zLI ?_
      refine zLI ?_
      refine zLI ?_
      refine zn ?_
      refine zt ?_
      refine ends (l := [.int _ _]) (q := .int _ _) (.inr rfl) rfl ⟨trivial, trivial⟩ rfl rfl ?_
      simp_all [labF, w64, elems, Bool.cond_eq_ite]
    · refine zk ?_
      refine zs ?_
      refine zR ?_
      refine zLI ?_
      refine zLI ?_
      refine zn ?_
      refine zt ?_
      refine ends (l := [.int _ _]) (q := .int _ _) (.inr rfl) rfl ⟨trivial, trivial⟩ rfl rfl ?_
      simp_all [labF, w64, elems, Bool.cond_eq_ite]
def listW (o : MOp) (a : Shape) : Int := bif o.Kind == 1 || o.Kind == 2 then w64 (o.M * lenF o a) else bif o.Kind == 3 then w64 (a.C * lenF o a) else 0
def listB (o : MOp) (a : Shape) : Int := bif o.Kind == 1 || o.Kind == 2 then o.M else bif o.Kind == 3 then a.C else 0
theorem ref08_Lists (o : MOp) (a : Shape) : Ok Try.prog 120 [.agg (opC o), .agg (shapeC a)] (.tup [.int .i64 (listW o a), .int .i64 (listB o a)]) := by
  refine fn_ok Tb_ok (fn := Try.f120) Try.func120 rfl rfl (e := [(0, _), (1, _)]) rfl (by decide) rfl ?_
  refine zs ?_
  refine zR ?_
  refine zbx [.int _ _, .int _ _, .int _ _, .int _ _, .int _ _, .int _ _, .int _ _, .int _ _, .int _ _, .int _ _, .int _ _, .int _ _, _, _, .int _ _, .int _ _, .int _ _, .int _ _, .int _ _, .int _ _, .int _ _, .int _ _] 22 ?_
  refine zbx [.int _ _, .int _ _, .int _ _] 3 ?_
  refine zLI ?_
  refine zLI ?_
  refine zn ?_
  refine zs ?_
  refine zs ?_
  refine zR ?_
  refine zLP ?_
  refine zLI ?_
  refine zn ?_
  refine W_block ?_
  refine zs ?_
  refine zs ?_
  refine zR ?_
  refine zLB ?_
  refine zLB ?_
  refine zn ?_
  refine W_cond (b := _) rfl (fun h8 => ?_) (fun h8 => ?_)
  · refine zk ?_
    refine W_cond (b := _) rfl (fun h8_1 => ?_) (fun h8_1 => ?_)
    · refine zs ?_
      refine W_draw 10 Tb_mixed rfl (by decide) (by kernel_rfl) (by kernel_rfl) ?_
      refine zEP ?_
      refine zEI ?_
      refine zEG [.int _ _, .int _ _, .int _ _, .int _ _, .int _ _, .int _ _, .int _ _, .int _ _, .int _ _, .int _ _, .int _ _, .int _ _, _, _, .int _ _, .int _ _, .int _ _, .int _ _, .int _ _, .int _ _, .int _ _, .int _ _] ?_
      refine zEG [.int _ _, .int _ _, .int _ _] ?_
      refine zEc (ref08_Length o a) ?_
      refine zEI ?_
      refine zEP ?_
      refine zEI ?_
      refine zEI ?_
      refine zEI ?_
      refine LexE_nil ?_
      refine zn ?_
      refine zt ?_
      refine ends (l := [.int _ _, .int _ _]) (q := .tup [.int _ _, .int _ _]) (.inr rfl) rfl ⟨trivial, trivial, trivial⟩ rfl rfl ?_
      by_cases k1 : o.Kind = 1 <;> simp_all [listW, listB, w64, Bool.cond_eq_ite]
    · refine zs ?_
      refine zR ?_
      refine zLB ?_
      refine zLB ?_
      refine zn ?_
      refine W_cond (b := _) rfl (fun h19 => ?_) (fun h19 => ?_)
      · refine zs ?_
        refine W_draw 10 Tb_mixed rfl (by decide) (by kernel_rfl) (by kernel_rfl) ?_
        refine zEP ?_
        refine zEI ?_
        refine zEG [.int _ _, .int _ _, .int _ _, .int _ _, .int _ _, .int _ _, .int _ _, .int _ _, .int _ _, .int _ _, .int _ _, .int _ _, _, _, .int _ _, .int _ _, .int _ _, .int _ _, .int _ _, .int _ _, .int _ _, .int _ _] ?_
        refine zEG [.int _ _, .int _ _, .int _ _] ?_
        refine zEc (ref08_Length o a) ?_
        refine zEI ?_
        refine zEP ?_
        refine zEI ?_
        refine zEI ?_
        refine zEI ?_
        refine LexE_nil ?_
        refine zn ?_
        refine zt ?_
        refine ends (l := [.int _ _, .int _ _]) (q := .tup [.int _ _, .int _ _]) (.inr rfl) rfl ⟨trivial, trivial, trivial⟩ rfl rfl ?_
        by_cases k1 : o.Kind = 1 <;> simp_all [listW, listB, w64, Bool.cond_eq_ite]
      · refine zk ?_
        refine zs ?_
        refine zR ?_
        refine zLI ?_
        refine zLI ?_
        refine zn ?_
        refine zt ?_
        refine ends (l := [.int _ _, .int _ _]) (q := .tup [.int _ _, .int _ _]) (.inr rfl) rfl ⟨trivial, trivial, trivial⟩ rfl rfl ?_
        by_cases k1 : o.Kind = 1 <;> simp_all [listW, listB, w64, Bool.cond_eq_ite]
  · refine zR ?_
    refine zLB ?_
    refine zLB ?_
    refine zn ?_
    refine W_cond (b := _) rfl (fun h8_2 => ?_) (fun h8_2 => ?_)
    · refine zs ?_
      refine W_draw 10 Tb_mixed rfl (by decide) (by kernel_rfl) (by kernel_rfl) ?_
      refine zEP ?_
      refine zEI ?_
      refine zEG [.int _ _, .int _ _, .int _ _, .int _ _, .int _ _, .int _ _, .int _ _, .int _ _, .int _ _, .int _ _, .int _ _, .int _ _, _, _, .int _ _, .int _ _, .int _ _, .int _ _, .int _ _, .int _ _, .int _ _, .int _ _] ?_
      refine zEG [.int _ _, .int _ _, .int _ _] ?_
      refine zEc (ref08_Length o a) ?_
      refine zEI ?_
      refine zEP ?_
      refine zEI ?_
      refine zEI ?_
      refine zEI ?_
      refine LexE_nil ?_
      refine zn ?_
      refine zt ?_
      refine ends (l := [.int _ _, .int _ _]) (q := .tup [.int _ _, .int _ _]) (.inr rfl) rfl ⟨trivial, trivial, trivial⟩ rfl rfl ?_
      by_cases k1 : o.Kind = 1 <;> simp_all [listW, listB, w64, Bool.cond_eq_ite]
    · refine zs ?_
      refine zR ?_
      refine zLB ?_
      refine zLB ?_
      refine zn ?_
      refine W_cond (b := _) rfl (fun h19_1 => ?_) (fun h19_1 => ?_)
      · refine zs ?_
        refine W_draw 10 Tb_mixed rfl (by decide) (by kernel_rfl) (by kernel_rfl) ?_
        refine zEP ?_
        refine zEI ?_
        refine zEG [.int _ _, .int _ _, .int _ _, .int _ _, .int _ _, .int _ _, .int _ _, .int _ _, .int _ _, .int _ _, .int _ _, .int _ _, _, _, .int _ _, .int _ _, .int _ _, .int _ _, .int _ _, .int _ _, .int _ _, .int _ _] ?_
        refine zEG [.int _ _, .int _ _, .int _ _] ?_
        refine zEc (ref08_Length o a) ?_
        refine zEI ?_
        refine zEP ?_
        refine zEI ?_
        refine zEI ?_
        refine zEI ?_
        refine LexE_nil ?_
        refine zn ?_
        refine zt ?_
        refine ends (l := [.int _ _, .int _ _]) (q := .tup [.int _ _, .int _ _]) (.inr rfl) rfl ⟨trivial, trivial, trivial⟩ rfl rfl ?_
        by_cases k1 : o.Kind = 1 <;> simp_all [listW, listB, w64, Bool.cond_eq_ite]
      · refine zk ?_
        refine zs ?_
        refine zR ?_
        refine zLI ?_
        refine zLI ?_
        refine zn ?_
        refine zt ?_
        refine ends (l := [.int _ _, .int _ _]) (q := .tup [.int _ _, .int _ _]) (.inr rfl) rfl ⟨trivial, trivial, trivial⟩ rfl rfl ?_
        by_cases k1 : o.Kind = 1 <;> simp_all [listW, listB, w64, Bool.cond_eq_ite]
end Go.AM
end
section
open Go Go.AM Go.Proofs
set_option maxRecDepth 10000
set_option linter.unusedVariables false
set_option linter.unusedSimpArgs false
namespace Go.AM
structure Uses where
  (b m win pads weights sa sb pad : Bool)
  deriving DecidableEq, Inhabited
def usesC (u : Uses) : List AV := [.bool u.b, .bool u.m, .bool u.win, .bool u.pads, .bool u.weights, .bool u.sa, .bool u.sb, .bool u.pad]
def ofU (k : Int) : Uses :=
  if k = 1 then ⟨false, true, false, false, true, true, false, false⟩ else if k = 2 then ⟨false, true, true, true, true, true, false, true⟩ else if k = 3 then ⟨false, false, true, true, true, true, false, true⟩
  else if k = 4 then ⟨false, false, true, false, false, false, false, false⟩ else if k = 5 then ⟨false, false, true, false, false, false, false, false⟩ else if k = 6 then ⟨true, false, false, false, false, true, true, false⟩
  else if k = 7 then ⟨false, false, false, false, false, true, false, false⟩ else ⟨false, false, false, false, false, false, false, false⟩
theorem model_of (n : Int) : Ok Try.prog 112 [.int .i64 n] (.tup [.agg (usesC (ofU n)), .bool (inB n 1 8)]) := by
  refine fn_ok Tb_ok (fn := Try.f112) Try.func112 rfl rfl (e := [(0, _)]) rfl (by decide) rfl ?_
  refine zs ?_
  refine zR ?_
  refine zal [.bool false, .bool false, .bool false, .bool false, .bool false, .bool false, .bool false, .bool false] 8 ?_
  refine zLB ?_
  refine zn ?_
  refine zs ?_
  refine zs ?_
  refine zR ?_
  refine zLI ?_
  refine zn ?_
  refine W_block ?_
  refine zs ?_
  refine zR ?_
  refine zLB ?_
  refine zLB ?_
  refine zn ?_
  refine W_cond (b := _) rfl (fun h5 => ?_) (fun h5 => ?_)
  · refine zs ?_
    refine zR ?_
    refine zLG [.bool _, .bool _, .bool _, .bool _, .bool _, .bool _, .bool _, .bool _] ?_
    refine zst (.agg [.bool _, .bool _, .bool _, .bool _, .bool _, .bool _, .bool _, .bool _]) [_, _, _, _, _, _, _, _] [[_, _, _, _, _, _, _, _]] ?_
    refine zLB ?_
    refine zn ?_
    refine zt ?_
    refine ends (l := [.agg [.bool _, .bool _, .bool _, .bool _, .bool _, .bool _, .bool _, .bool _], .bool _]) (q := .tup [.agg [.bool _, .bool _, .bool _, .bool _, .bool _, .bool _, .bool _, .bool _], .bool _]) (.inr rfl) rfl ⟨rfl, trivial, trivial⟩ rfl rfl ?_
    simp_all [usesC, ofU, inB]; try omega
  · refine zs ?_
    refine zR ?_
    refine zLB ?_
    refine zLB ?_
    refine zn ?_
    refine W_cond (b := _) rfl (fun h8 => ?_) (fun h8 => ?_)
    · refine zs ?_
      refine zR ?_
      refine zLG [.bool _, .bool _, .bool _, .bool _, .bool _, .bool _, .bool _, .bool _] ?_
      refine zst (.agg [.bool _, .bool _, .bool _, .bool _, .bool _, .bool _, .bool _, .bool _]) [_, _, _, _, _, _, _, _] [[_, _, _, _, _, _, _, _]] ?_
      refine zLB ?_
      refine zn ?_
      refine zt ?_
      refine ends (l := [.agg [.bool _, .bool _, .bool _, .bool _, .bool _, .bool _, .bool _, .bool _], .bool _]) (q := .tup [.agg [.bool _, .bool _, .bool _, .bool _, .bool _, .bool _, .bool _, .bool _], .bool _]) (.inr rfl) rfl ⟨rfl, trivial, trivial⟩ rfl rfl ?_
      simp_all [usesC, ofU, inB]; try omega
    · refine zs ?_
      refine zR ?_
      refine zLB ?_
      refine zLB ?_
      refine zn ?_
      refine W_cond (b := _) rfl (fun h11 => ?_) (fun h11 => ?_)
      · refine zs ?_
        refine zR ?_
        refine zLG [.bool _, .bool _, .bool _, .bool _, .bool _, .bool _, .bool _, .bool _] ?_
        refine zst (.agg [.bool _, .bool _, .bool _, .bool _, .bool _, .bool _, .bool _, .bool _]) [_, _, _, _, _, _, _, _] [[_, _, _, _, _, _, _, _]] ?_
        refine zLB ?_
        refine zn ?_
        refine zt ?_
        refine ends (l := [.agg [.bool _, .bool _, .bool _, .bool _, .bool _, .bool _, .bool _, .bool _], .bool _]) (q := .tup [.agg [.bool _, .bool _, .bool _, .bool _, .bool _, .bool _, .bool _, .bool _], .bool _]) (.inr rfl) rfl ⟨rfl, trivial, trivial⟩ rfl rfl ?_
        simp_all [usesC, ofU, inB]; try omega
      · refine zs ?_
        refine zs ?_
        refine zR ?_
        refine zLB ?_
        refine zLB ?_
        refine zn ?_
        refine W_cond (b := _) rfl (fun h14 => ?_) (fun h14 => ?_)
        · refine zk ?_
          refine W_cond (b := _) rfl (fun h14_1 => ?_) (fun h14_1 => ?_)
          · refine zs ?_
            refine zR ?_
            refine zLG [.bool _, .bool _, .bool _, .bool _, .bool _, .bool _, .bool _, .bool _] ?_
            refine zst (.agg [.bool _, .bool _, .bool _, .bool _, .bool _, .bool _, .bool _, .bool _]) [_, _, _, _, _, _, _, _] [[_, _, _, _, _, _, _, _]] ?_
            refine zLB ?_
            refine zn ?_
            refine zt ?_
            refine ends (l := [.agg [.bool _, .bool _, .bool _, .bool _, .bool _, .bool _, .bool _, .bool _], .bool _]) (q := .tup [.agg [.bool _, .bool _, .bool _, .bool _, .bool _, .bool _, .bool _, .bool _], .bool _]) (.inr rfl) rfl ⟨rfl, trivial, trivial⟩ rfl rfl ?_
            simp_all [usesC, ofU, inB]; try omega
          · refine zs ?_
            refine zR ?_
            refine zLB ?_
            refine zLB ?_
            refine zn ?_
            refine W_cond (b := _) rfl (fun h18 => ?_) (fun h18 => ?_)
            · refine zs ?_
              refine zR ?_
              refine zLG [.bool _, .bool _, .bool _, .bool _, .bool _, .bool _, .bool _, .bool _] ?_
              refine zst (.agg [.bool _, .bool _, .bool _, .bool _, .bool _, .bool _, .bool _, .bool _]) [_, _, _, _, _, _, _, _] [[_, _, _, _, _, _, _, _]] ?_
              refine zLB ?_
              refine zn ?_
              refine zt ?_
              refine ends (l := [.agg [.bool _, .bool _, .bool _, .bool _, .bool _, .bool _, .bool _, .bool _], .bool _]) (q := .tup [.agg [.bool _, .bool _, .bool _, .bool _, .bool _, .bool _, .bool _, .bool _], .bool _]) (.inr rfl) rfl ⟨rfl, trivial, trivial⟩ rfl rfl ?_
              simp_all [usesC, ofU, inB]; try omega
            · refine zs ?_
              refine zR ?_
              refine zLB ?_
              refine zLB ?_
              refine zn ?_
              refine W_cond (b := _) rfl (fun h21 => ?_) (fun h21 => ?_)
              · refine zs ?_
                refine zR ?_
                refine zLG [.bool _, .bool _, .bool _, .bool _, .bool _, .bool _, .bool _, .bool _] ?_
                refine zst (.agg [.bool _, .bool _, .bool _, .bool _, .bool _, .bool _, .bool _, .bool _]) [_, _, _, _, _, _, _, _] [[_, _, _, _, _, _, _, _]] ?_
                refine zLB ?_
                refine zn ?_
                refine zt ?_
                refine ends (l := [.agg [.bool _, .bool _, .bool _, .bool _, .bool _, .bool _, .bool _, .bool _], .bool _]) (q := .tup [.agg [.bool _, .bool _, .bool _, .bool _, .bool _, .bool _, .bool _, .bool _], .bool _]) (.inr rfl) rfl ⟨rfl, trivial, trivial⟩ rfl rfl ?_
                simp_all [usesC, ofU, inB]; try omega
              · refine zs ?_
                refine zR ?_
                refine zLB ?_
                refine zLB ?_
                refine zn ?_
                refine W_cond (b := _) rfl (fun h24 => ?_) (fun h24 => ?_)
                · refine zs ?_
                  refine zR ?_
                  refine zLG [.bool _, .bool _, .bool _, .bool _, .bool _, .bool _, .bool _, .bool _] ?_
                  refine zst (.agg [.bool _, .bool _, .bool _, .bool _, .bool _, .bool _, .bool _, .bool _]) [_, _, _, _, _, _, _, _] [[_, _, _, _, _, _, _, _]] ?_
                  refine zLB ?_
                  refine zn ?_
                  refine zt ?_
                  refine ends (l := [.agg [.bool _, .bool _, .bool _, .bool _, .bool _, .bool _, .bool _, .bool _], .bool _]) (q := .tup [.agg [.bool _, .bool _, .bool _, .bool _, .bool _, .bool _, .bool _, .bool _], .bool _]) (.inr rfl) rfl ⟨rfl, trivial, trivial⟩ rfl rfl ?_
                  simp_all [usesC, ofU, inB]; try omega
                · refine zk ?_
                  refine zs ?_
                  refine zR ?_
                  refine zLG [.bool _, .bool _, .bool _, .bool _, .bool _, .bool _, .bool _, .bool _] ?_
                  refine zst (.agg [.bool _, .bool _, .bool _, .bool _, .bool _, .bool _, .bool _, .bool _]) [_, _, _, _, _, _, _, _] [[_, _, _, _, _, _, _, _]] ?_
                  refine zLB ?_
                  refine zn ?_
                  refine zt ?_
                  refine ends (l := [.agg [.bool _, .bool _, .bool _, .bool _, .bool _, .bool _, .bool _, .bool _], .bool _]) (q := .tup [.agg [.bool _, .bool _, .bool _, .bool _, .bool _, .bool _, .bool _, .bool _], .bool _]) (.inr rfl) rfl ⟨rfl, trivial, trivial⟩ rfl rfl ?_
                  simp_all [usesC, ofU, inB]; try omega
        · refine zR ?_
          refine zLB ?_
          refine zLB ?_
          refine zn ?_
          refine W_cond (b := _) rfl (fun h14_2 => ?_) (fun h14_2 => ?_)
          · refine zs ?_
            refine zR ?_
            refine zLG [.bool _, .bool _, .bool _, .bool _, .bool _, .bool _, .bool _, .bool _] ?_
            refine zst (.agg [.bool _, .bool _, .bool _, .bool _, .bool _, .bool _, .bool _, .bool _]) [_, _, _, _, _, _, _, _] [[_, _, _, _, _, _, _, _]] ?_
            refine zLB ?_
            refine zn ?_
            refine zt ?_
            refine ends (l := [.agg [.bool _, .bool _, .bool _, .bool _, .bool _, .bool _, .bool _, .bool _], .bool _]) (q := .tup [.agg [.bool _, .bool _, .bool _, .bool _, .bool _, .bool _, .bool _, .bool _], .bool _]) (.inr rfl) rfl ⟨rfl, trivial, trivial⟩ rfl rfl ?_
            simp_all [usesC, ofU, inB]; try omega
          · refine zs ?_
            refine zR ?_
            refine zLB ?_
            refine zLB ?_
            refine zn ?_
            refine W_cond (b := _) rfl (fun h18_1 => ?_) (fun h18_1 => ?_)
            · refine zs ?_
              refine zR ?_
              refine zLG [.bool _, .bool _, .bool _, .bool _, .bool _, .bool _, .bool _, .bool _] ?_
              refine zst (.agg [.bool _, .bool _, .bool _, .bool _, .bool _, .bool _, .bool _, .bool _]) [_, _, _, _, _, _, _, _] [[_, _, _, _, _, _, _, _]] ?_
              refine zLB ?_
              refine zn ?_
              refine zt ?_
              refine ends (l := [.agg [.bool _, .bool _, .bool _, .bool _, .bool _, .bool _, .bool _, .bool _], .bool _]) (q := .tup [.agg [.bool _, .bool _, .bool _, .bool _, .bool _, .bool _, .bool _, .bool _], .bool _]) (.inr rfl) rfl ⟨rfl, trivial, trivial⟩ rfl rfl ?_
              simp_all [usesC, ofU, inB]; try omega
            · refine zs ?_
              refine zR ?_
              refine zLB ?_
              refine zLB ?_
              refine zn ?_
              refine W_cond (b := _) rfl (fun h21_1 => ?_) (fun h21_1 => ?_)
              · refine zs ?_
                refine zR ?_
                refine zLG [.bool _, .bool _, .bool _, .bool _, .bool _, .bool _, .bool _, .bool _] ?_
                refine zst (.agg [.bool _, .bool _, .bool _, .bool _, .bool _, .bool _, .bool _, .bool _]) [_, _, _, _, _, _, _, _] [[_, _, _, _, _, _, _, _]] ?_
                refine zLB ?_
                refine zn ?_
                refine zt ?_
                refine ends (l := [.agg [.bool _, .bool _, .bool _, .bool _, .bool _, .bool _, .bool _, .bool _], .bool _]) (q := .tup [.agg [.bool _, .bool _, .bool _, .bool _, .bool _, .bool _, .bool _, .bool _], .bool _]) (.inr rfl) rfl ⟨rfl, trivial, trivial⟩ rfl rfl ?_
                simp_all [usesC, ofU, inB]; try omega
              · refine zs ?_
                refine zR ?_
                refine zLB ?_
                refine zLB ?_
                refine zn ?_
                refine W_cond (b := _) rfl (fun h24_1 => ?_) (fun h24_1 => ?_)
                · refine zs ?_
                  refine zR ?_
                  refine zLG [.bool _, .bool _, .bool _, .bool _, .bool _, .bool _, .bool _, .bool _] ?_
                  refine zst (.agg [.bool _, .bool _, .bool _, .bool _, .bool _, .bool _, .bool _, .bool _]) [_, _, _, _, _, _, _, _] [[_, _, _, _, _, _, _, _]] ?_
                  refine zLB ?_
                  refine zn ?_
                  refine zt ?_
                  refine ends (l := [.agg [.bool _, .bool _, .bool _, .bool _, .bool _, .bool _, .bool _, .bool _], .bool _]) (q := .tup [.agg [.bool _, .bool _, .bool _, .bool _, .bool _, .bool _, .bool _, .bool _], .bool _]) (.inr rfl) rfl ⟨rfl, trivial, trivial⟩ rfl rfl ?_
                  simp_all [usesC, ofU, inB]; try omega
                · refine zk ?_
                  refine zs ?_
                  refine zR ?_
                  refine zLG [.bool _, .bool _, .bool _, .bool _, .bool _, .bool _, .bool _, .bool _] ?_
                  refine zst (.agg [.bool _, .bool _, .bool _, .bool _, .bool _, .bool _, .bool _, .bool _]) [_, _, _, _, _, _, _, _] [[_, _, _, _, _, _, _, _]] ?_
                  refine zLB ?_
                  refine zn ?_
                  refine zt ?_
                  refine ends (l := [.agg [.bool _, .bool _, .bool _, .bool _, .bool _, .bool _, .bool _, .bool _], .bool _]) (q := .tup [.agg [.bool _, .bool _, .bool _, .bool _, .bool _, .bool _, .bool _, .bool _], .bool _]) (.inr rfl) rfl ⟨rfl, trivial, trivial⟩ rfl rfl ?_
                  simp_all [usesC, ofU, inB]; try omega
def bare1 (o : MOp) : MOp := { o with Kind := 0, A := 0, Lo := 0, Hi := 0 }
def bare2 (u : Uses) (o : MOp) : MOp := bif u.b then { bare1 o with B := 0 } else bare1 o
def bare3 (u : Uses) (o : MOp) : MOp := bif u.m then { bare2 u o with M := 0 } else bare2 u o
def bare4 (u : Uses) (o : MOp) : MOp := bif u.win then { bare3 u o with Win := ⟨0, 0, 0, 0, (bare3 u o).Win.Top, (bare3 u o).Win.Left, (bare3 u o).Win.Bottom, (bare3 u o).Win.Right⟩ } else bare3 u o
def bare5 (u : Uses) (o : MOp) : MOp := bif u.pads then { bare4 u o with Win := ⟨0, 0, 0, 0, 0, 0, 0, 0⟩ } else bare4 u o
def bare6 (u : Uses) (o : MOp) : MOp := bif u.weights then { bare5 u o with Weights := [], Bias := [] } else bare5 u o
def bare7 (u : Uses) (o : MOp) : MOp := bif u.sa then { bare6 u o with SA := ⟨0, 0⟩, Zero := 0 } else bare6 u o
def bare8 (u : Uses) (o : MOp) : MOp := bif u.sb then { bare7 u o with SB := ⟨0, 0⟩ } else bare7 u o
def bareF (u : Uses) (o : MOp) : MOp := bif u.pad then { bare8 u o with Pad := 0 } else bare8 u o
theorem model_bare (o : MOp) (u : Uses) : Ok Try.prog 114 [.agg (opC o), .agg (usesC u)] (.agg (opC (bareF u o))) := by
  refine fn_ok Tb_ok (fn := Try.f114) Try.func114 rfl rfl (e := [(0, _), (1, _)]) rfl (by decide) rfl ?_
  refine zs ?_
  refine zR ?_
  refine zbx [.int _ _, .int _ _, .int _ _, .int _ _, .int _ _, .int _ _, .int _ _, .int _ _, .int _ _, .int _ _, .int _ _, .int _ _, _, _, .int _ _, .int _ _, .int _ _, .int _ _, .int _ _, .int _ _, .int _ _, .int _ _] 22 ?_
  refine zbx [.bool _, .bool _, .bool _, .bool _, .bool _, .bool _, .bool _, .bool _] 8 ?_
  refine zal [.int .i64 0, .int .i64 0, .int .i64 0, .int .i64 0, .int .i64 0, .int .i64 0, .int .i64 0, .int .i64 0, .int .i64 0, .int .i64 0, .int .i64 0, .int .i64 0, .nils, .nils, .int .i64 0, .int .i64 0, .int .i64 0, .int .i64 0, .int .i64 0, .int .i64 0, .int .i64 0, .int .i64 0] 22 ?_
  refine zn ?_
  refine zs ?_
  refine zR ?_
  refine zLP ?_
  refine zst (.int _ _) [_] [[_, _, _, _, _, _, _, _, _, _, _, _, _, _, _, _, _, _, _, _, _, _]] ?_
  refine zLP ?_
  refine zst (.int _ _) [_] [[_, _, _, _, _, _, _, _, _, _, _, _, _, _, _, _, _, _, _, _, _, _]] ?_
  refine zLP ?_
  refine zst (.int _ _) [_] [[_, _, _, _, _, _, _, _, _, _, _, _, _, _, _, _, _, _, _, _, _, _]] ?_
  refine zLP ?_
  refine zst (.int _ _) [_] [[_, _, _, _, _, _, _, _, _, _, _, _, _, _, _, _, _, _, _, _, _, _]] ?_
  refine zn ?_
  refine zs ?_
  refine zs ?_
  refine zR ?_
  refine zLP ?_
  refine zLB ?_
  refine zn ?_
  refine W_ift (b := _) (M := ⟨[(2, .ptr 0 0 0), (3, .ptr 1 0 0), (4, .ptr 2 0 0)], [(0, some ⟨44, 22, 0, [opC ((bif u.b then { bare1 o with B := 0 } else bare1 o))]⟩), (1, some ⟨181, 8, 0, [usesC u]⟩), (2, some ⟨44, 22, 0, [[.int .i64 0, .int .i64 0, .int .i64 0, .int .i64 0, .int .i64 0, .int .i64 0, .int .i64 0, .int .i64 0, .int .i64 0, .int .i64 0, .int .i64 0, .int .i64 0, .nils, .nils, .int .i64 0, .int .i64 0, .int .i64 0, .int .i64 0, .int .i64 0, .int .i64 0, .int .i64 0, .int .i64 0]]⟩)], [], 3⟩) (p := True) rfl (fun h11 => ?_) (fun h11 => ?_) (fun m11 => ?_)
  · refine zR ?_
    refine zLP ?_
    refine zst (.int _ _) [_] [[_, _, _, _, _, _, _, _, _, _, _, _, _, _, _, _, _, _, _, _, _, _]] ?_
    refine zn ?_
    exact ⟨trivial, le_t (F := fun X => ⟨[(2, .ptr 0 0 0), (3, .ptr 1 0 0), (4, .ptr 2 0 0)], [(0, some ⟨44, 22, 0, [opC (X)]⟩), (1, some ⟨181, 8, 0, [usesC u]⟩), (2, some ⟨44, 22, 0, [[.int .i64 0, .int .i64 0, .int .i64 0, .int .i64 0, .int .i64 0, .int .i64 0, .int .i64 0, .int .i64 0, .int .i64 0, .int .i64 0, .int .i64 0, .int .i64 0, .nils, .nils, .int .i64 0, .int .i64 0, .int .i64 0, .int .i64 0, .int .i64 0, .int .i64 0, .int .i64 0, .int .i64 0]]⟩)], [], 3⟩) (x := { bare1 o with B := 0 }) (y := bare1 o) h11 (le_fit ⟨rfl, rfl, rfl, trivial⟩ ⟨.inr rfl, .inr rfl, .inr rfl, trivial⟩ trivial rfl rfl rfl rfl rfl)⟩
  · refine zk ?_
    exact ⟨trivial, le_f (F := fun X => ⟨[(2, .ptr 0 0 0), (3, .ptr 1 0 0), (4, .ptr 2 0 0)], [(0, some ⟨44, 22, 0, [opC (X)]⟩), (1, some ⟨181, 8, 0, [usesC u]⟩), (2, some ⟨44, 22, 0, [[.int .i64 0, .int .i64 0, .int .i64 0, .int .i64 0, .int .i64 0, .int .i64 0, .int .i64 0, .int .i64 0, .int .i64 0, .int .i64 0, .int .i64 0, .int .i64 0, .nils, .nils, .int .i64 0, .int .i64 0, .int .i64 0, .int .i64 0, .int .i64 0, .int .i64 0, .int .i64 0, .int .i64 0]]⟩)], [], 3⟩) (x := { bare1 o with B := 0 }) (y := bare1 o) h11 (le_fit ⟨rfl, rfl, rfl, trivial⟩ ⟨.inr rfl, .inr rfl, .inr rfl, trivial⟩ trivial rfl rfl rfl rfl rfl)⟩
  refine zs ?_
  refine zs ?_
  refine zR ?_
  refine zLP ?_
  refine zLB ?_
  refine zn ?_
  refine W_ift (b := _) (M := ⟨[(2, .ptr 0 0 0), (3, .ptr 1 0 0), (4, .ptr 2 0 0)], [(0, some ⟨44, 22, 0, [opC ((bif u.m then { bare2 u o with M := 0 } else bare2 u o))]⟩), (1, some ⟨181, 8, 0, [usesC u]⟩), (2, some ⟨44, 22, 0, [[.int .i64 0, .int .i64 0, .int .i64 0, .int .i64 0, .int .i64 0, .int .i64 0, .int .i64 0, .int .i64 0, .int .i64 0, .int .i64 0, .int .i64 0, .int .i64 0, .nils, .nils, .int .i64 0, .int .i64 0, .int .i64 0, .int .i64 0, .int .i64 0, .int .i64 0, .int .i64 0, .int .i64 0]]⟩)], [], 3⟩) (p := True) rfl (fun h14 => ?_) (fun h14 => ?_) (fun m14 => ?_)
  · refine zR ?_
    refine zLP ?_
    refine zst (.int _ _) [_] [[_, _, _, _, _, _, _, _, _, _, _, _, _, _, _, _, _, _, _, _, _, _]] ?_
    refine zn ?_
    exact ⟨trivial, le_t (F := fun X => ⟨[(2, .ptr 0 0 0), (3, .ptr 1 0 0), (4, .ptr 2 0 0)], [(0, some ⟨44, 22, 0, [opC (X)]⟩), (1, some ⟨181, 8, 0, [usesC u]⟩), (2, some ⟨44, 22, 0, [[.int .i64 0, .int .i64 0, .int .i64 0, .int .i64 0, .int .i64 0, .int .i64 0, .int .i64 0, .int .i64 0, .int .i64 0, .int .i64 0, .int .i64 0, .int .i64 0, .nils, .nils, .int .i64 0, .int .i64 0, .int .i64 0, .int .i64 0, .int .i64 0, .int .i64 0, .int .i64 0, .int .i64 0]]⟩)], [], 3⟩) (x := { bare2 u o with M := 0 }) (y := bare2 u o) h14 (le_fit ⟨rfl, rfl, rfl, trivial⟩ ⟨.inr rfl, .inr rfl, .inr rfl, trivial⟩ trivial rfl rfl rfl rfl rfl)⟩
  · refine zk ?_
    exact ⟨trivial, le_f (F := fun X => ⟨[(2, .ptr 0 0 0), (3, .ptr 1 0 0), (4, .ptr 2 0 0)], [(0, some ⟨44, 22, 0, [opC (X)]⟩), (1, some ⟨181, 8, 0, [usesC u]⟩), (2, some ⟨44, 22, 0, [[.int .i64 0, .int .i64 0, .int .i64 0, .int .i64 0, .int .i64 0, .int .i64 0, .int .i64 0, .int .i64 0, .int .i64 0, .int .i64 0, .int .i64 0, .int .i64 0, .nils, .nils, .int .i64 0, .int .i64 0, .int .i64 0, .int .i64 0, .int .i64 0, .int .i64 0, .int .i64 0, .int .i64 0]]⟩)], [], 3⟩) (x := { bare2 u o with M := 0 }) (y := bare2 u o) h14 (le_fit ⟨rfl, rfl, rfl, trivial⟩ ⟨.inr rfl, .inr rfl, .inr rfl, trivial⟩ trivial rfl rfl rfl rfl rfl)⟩
  refine zs ?_
  refine zs ?_
  refine zR ?_
  refine zLP ?_
  refine zLB ?_
  refine zn ?_
  refine W_ift (b := _) (M := ⟨[(2, .ptr 0 0 0), (3, .ptr 1 0 0), (4, .ptr 2 0 0)], [(0, some ⟨44, 22, 0, [opC ((bif u.win then { bare3 u o with Win := ⟨0, 0, 0, 0, (bare3 u o).Win.Top, (bare3 u o).Win.Left, (bare3 u o).Win.Bottom, (bare3 u o).Win.Right⟩ } else bare3 u o))]⟩), (1, some ⟨181, 8, 0, [usesC u]⟩), (2, some ⟨44, 22, 0, [[.int .i64 0, .int .i64 0, .int .i64 0, .int .i64 0, .int .i64 0, .int .i64 0, .int .i64 0, .int .i64 0, .int .i64 0, .int .i64 0, .int .i64 0, .int .i64 0, .nils, .nils, .int .i64 0, .int .i64 0, .int .i64 0, .int .i64 0, .int .i64 0, .int .i64 0, .int .i64 0, .int .i64 0]]⟩)], [], 3⟩) (p := True) rfl (fun h17 => ?_) (fun h17 => ?_) (fun m17 => ?_)
  · refine zs ?_
    refine zR ?_
    refine zLP ?_
    refine zLG [.int _ _, .int _ _, .int _ _, .int _ _, .int _ _, .int _ _, .int _ _, .int _ _] ?_
    refine zal [.int .i64 0, .int .i64 0, .int .i64 0, .int .i64 0, .int .i64 0, .int .i64 0, .int .i64 0, .int .i64 0] 8 ?_
    refine zst (.agg [.int _ _, .int _ _, .int _ _, .int _ _, .int _ _, .int _ _, .int _ _, .int _ _]) [_, _, _, _, _, _, _, _] [[_, _, _, _, _, _, _, _]] ?_
    refine zn ?_
    refine zR ?_
    refine zLP ?_
    refine zLI ?_
    refine zLP ?_
    refine zLI ?_
    refine zLP ?_
    refine zLI ?_
    refine zLP ?_
    refine zLI ?_
    refine zLG [.int _ _, .int _ _, .int _ _, .int _ _, .int _ _, .int _ _, .int _ _, .int _ _] ?_
    refine zLP ?_
    refine zst (.agg [.int _ _, .int _ _, .int _ _, .int _ _, .int _ _, .int _ _, .int _ _, .int _ _]) [_, _, _, _, _, _, _, _] [[_, _, _, _, _, _, _, _, _, _, _, _, _, _, _, _, _, _, _, _, _, _]] ?_
    refine zn ?_
    exact ⟨trivial, le_t (F := fun X => ⟨[(2, .ptr 0 0 0), (3, .ptr 1 0 0), (4, .ptr 2 0 0)], [(0, some ⟨44, 22, 0, [opC (X)]⟩), (1, some ⟨181, 8, 0, [usesC u]⟩), (2, some ⟨44, 22, 0, [[.int .i64 0, .int .i64 0, .int .i64 0, .int .i64 0, .int .i64 0, .int .i64 0, .int .i64 0, .int .i64 0, .int .i64 0, .int .i64 0, .int .i64 0, .int .i64 0, .nils, .nils, .int .i64 0, .int .i64 0, .int .i64 0, .int .i64 0, .int .i64 0, .int .i64 0, .int .i64 0, .int .i64 0]]⟩)], [], 3⟩) (x := { bare3 u o with Win := ⟨0, 0, 0, 0, (bare3 u o).Win.Top, (bare3 u o).Win.Left, (bare3 u o).Win.Bottom, (bare3 u o).Win.Right⟩ }) (y := bare3 u o) h17 (le_fit ⟨rfl, rfl, rfl, trivial⟩ ⟨.inr rfl, .inr rfl, .inr rfl, trivial⟩ trivial rfl rfl rfl rfl rfl)⟩
  · refine zk ?_
    exact ⟨trivial, le_f (F := fun X => ⟨[(2, .ptr 0 0 0), (3, .ptr 1 0 0), (4, .ptr 2 0 0)], [(0, some ⟨44, 22, 0, [opC (X)]⟩), (1, some ⟨181, 8, 0, [usesC u]⟩), (2, some ⟨44, 22, 0, [[.int .i64 0, .int .i64 0, .int .i64 0, .int .i64 0, .int .i64 0, .int .i64 0, .int .i64 0, .int .i64 0, .int .i64 0, .int .i64 0, .int .i64 0, .int .i64 0, .nils, .nils, .int .i64 0, .int .i64 0, .int .i64 0, .int .i64 0, .int .i64 0, .int .i64 0, .int .i64 0, .int .i64 0]]⟩)], [], 3⟩) (x := { bare3 u o with Win := ⟨0, 0, 0, 0, (bare3 u o).Win.Top, (bare3 u o).Win.Left, (bare3 u o).Win.Bottom, (bare3 u o).Win.Right⟩ }) (y := bare3 u o) h17 (le_fit ⟨rfl, rfl, rfl, trivial⟩ ⟨.inr rfl, .inr rfl, .inr rfl, trivial⟩ trivial rfl rfl rfl rfl rfl)⟩
  refine zs ?_
  refine zs ?_
  refine zR ?_
  refine zLP ?_
  refine zLB ?_
  refine zn ?_
  refine W_ift (b := _) (M := ⟨[(2, .ptr 0 0 0), (3, .ptr 1 0 0), (4, .ptr 2 0 0)], [(0, some ⟨44, 22, 0, [opC ((bif u.pads then { bare4 u o with Win := ⟨0, 0, 0, 0, 0, 0, 0, 0⟩ } else bare4 u o))]⟩), (1, some ⟨181, 8, 0, [usesC u]⟩), (2, some ⟨44, 22, 0, [[.int .i64 0, .int .i64 0, .int .i64 0, .int .i64 0, .int .i64 0, .int .i64 0, .int .i64 0, .int .i64 0, .int .i64 0, .int .i64 0, .int .i64 0, .int .i64 0, .nils, .nils, .int .i64 0, .int .i64 0, .int .i64 0, .int .i64 0, .int .i64 0, .int .i64 0, .int .i64 0, .int .i64 0]]⟩)], [], 3⟩) (p := True) rfl (fun h31 => ?_) (fun h31 => ?_) (fun m31 => ?_)
  · refine zR ?_
    refine zLG [.int _ _, .int _ _, .int _ _, .int _ _, .int _ _, .int _ _, .int _ _, .int _ _] ?_
    refine zLP ?_
    refine zst (.agg [.int _ _, .int _ _, .int _ _, .int _ _, .int _ _, .int _ _, .int _ _, .int _ _]) [_, _, _, _, _, _, _, _] [[_, _, _, _, _, _, _, _, _, _, _, _, _, _, _, _, _, _, _, _, _, _]] ?_
    refine zn ?_
    exact ⟨trivial, le_t (F := fun X => ⟨[(2, .ptr 0 0 0), (3, .ptr 1 0 0), (4, .ptr 2 0 0)], [(0, some ⟨44, 22, 0, [opC (X)]⟩), (1, some ⟨181, 8, 0, [usesC u]⟩), (2, some ⟨44, 22, 0, [[.int .i64 0, .int .i64 0, .int .i64 0, .int .i64 0, .int .i64 0, .int .i64 0, .int .i64 0, .int .i64 0, .int .i64 0, .int .i64 0, .int .i64 0, .int .i64 0, .nils, .nils, .int .i64 0, .int .i64 0, .int .i64 0, .int .i64 0, .int .i64 0, .int .i64 0, .int .i64 0, .int .i64 0]]⟩)], [], 3⟩) (x := { bare4 u o with Win := ⟨0, 0, 0, 0, 0, 0, 0, 0⟩ }) (y := bare4 u o) h31 (le_fit ⟨rfl, rfl, rfl, trivial⟩ ⟨.inr rfl, .inr rfl, .inr rfl, trivial⟩ trivial rfl rfl rfl rfl rfl)⟩
  · refine zk ?_
    exact ⟨trivial, le_f (F := fun X => ⟨[(2, .ptr 0 0 0), (3, .ptr 1 0 0), (4, .ptr 2 0 0)], [(0, some ⟨44, 22, 0, [opC (X)]⟩), (1, some ⟨181, 8, 0, [usesC u]⟩), (2, some ⟨44, 22, 0, [[.int .i64 0, .int .i64 0, .int .i64 0, .int .i64 0, .int .i64 0, .int .i64 0, .int .i64 0, .int .i64 0, .int .i64 0, .int .i64 0, .int .i64 0, .int .i64 0, .nils, .nils, .int .i64 0, .int .i64 0, .int .i64 0, .int .i64 0, .int .i64 0, .int .i64 0, .int .i64 0, .int .i64 0]]⟩)], [], 3⟩) (x := { bare4 u o with Win := ⟨0, 0, 0, 0, 0, 0, 0, 0⟩ }) (y := bare4 u o) h31 (le_fit ⟨rfl, rfl, rfl, trivial⟩ ⟨.inr rfl, .inr rfl, .inr rfl, trivial⟩ trivial rfl rfl rfl rfl rfl)⟩
  refine zs ?_
  refine zs ?_
  refine zR ?_
  refine zLP ?_
  refine zLB ?_
  refine zn ?_
  refine W_ift (b := _) (M := ⟨[(2, .ptr 0 0 0), (3, .ptr 1 0 0), (4, .ptr 2 0 0)], [(0, some ⟨44, 22, 0, [opC ((bif u.weights then { bare5 u o with Weights := [], Bias := [] } else bare5 u o))]⟩), (1, some ⟨181, 8, 0, [usesC u]⟩), (2, some ⟨44, 22, 0, [[.int .i64 0, .int .i64 0, .int .i64 0, .int .i64 0, .int .i64 0, .int .i64 0, .int .i64 0, .int .i64 0, .int .i64 0, .int .i64 0, .int .i64 0, .int .i64 0, .nils, .nils, .int .i64 0, .int .i64 0, .int .i64 0, .int .i64 0, .int .i64 0, .int .i64 0, .int .i64 0, .int .i64 0]]⟩)], [], 3⟩) (p := True) rfl (fun h35 => ?_) (fun h35 => ?_) (fun m35 => ?_)
  · refine zR ?_
    refine zLP ?_
    refine L_store_nil Tb_ok (es' := [[_, _, _, _, _, _, _, _, _, _, _, _, _, _, _, _, _, _, _, _, _, _]]) rfl rfl rfl rfl rfl rfl rfl ⟨trivial, trivial⟩ ?_
    refine zLP ?_
    refine L_store_nil Tb_ok (es' := [[_, _, _, _, _, _, _, _, _, _, _, _, _, _, _, _, _, _, _, _, _, _]]) rfl rfl rfl rfl rfl rfl rfl ⟨trivial, trivial⟩ ?_
    refine zn ?_
    exact ⟨trivial, le_t (F := fun X => ⟨[(2, .ptr 0 0 0), (3, .ptr 1 0 0), (4, .ptr 2 0 0)], [(0, some ⟨44, 22, 0, [opC (X)]⟩), (1, some ⟨181, 8, 0, [usesC u]⟩), (2, some ⟨44, 22, 0, [[.int .i64 0, .int .i64 0, .int .i64 0, .int .i64 0, .int .i64 0, .int .i64 0, .int .i64 0, .int .i64 0, .int .i64 0, .int .i64 0, .int .i64 0, .int .i64 0, .nils, .nils, .int .i64 0, .int .i64 0, .int .i64 0, .int .i64 0, .int .i64 0, .int .i64 0, .int .i64 0, .int .i64 0]]⟩)], [], 3⟩) (x := { bare5 u o with Weights := [], Bias := [] }) (y := bare5 u o) h35 (le_fit ⟨rfl, rfl, rfl, trivial⟩ ⟨.inr rfl, .inr rfl, .inr rfl, trivial⟩ trivial rfl rfl rfl rfl rfl)⟩
  · refine zk ?_
    exact ⟨trivial, le_f (F := fun X => ⟨[(2, .ptr 0 0 0), (3, .ptr 1 0 0), (4, .ptr 2 0 0)], [(0, some ⟨44, 22, 0, [opC (X)]⟩), (1, some ⟨181, 8, 0, [usesC u]⟩), (2, some ⟨44, 22, 0, [[.int .i64 0, .int .i64 0, .int .i64 0, .int .i64 0, .int .i64 0, .int .i64 0, .int .i64 0, .int .i64 0, .int .i64 0, .int .i64 0, .int .i64 0, .int .i64 0, .nils, .nils, .int .i64 0, .int .i64 0, .int .i64 0, .int .i64 0, .int .i64 0, .int .i64 0, .int .i64 0, .int .i64 0]]⟩)], [], 3⟩) (x := { bare5 u o with Weights := [], Bias := [] }) (y := bare5 u o) h35 (le_fit ⟨rfl, rfl, rfl, trivial⟩ ⟨.inr rfl, .inr rfl, .inr rfl, trivial⟩ trivial rfl rfl rfl rfl rfl)⟩
  refine zs ?_
  refine zs ?_
  refine zR ?_
  refine zLP ?_
  refine zLB ?_
  refine zn ?_
  refine W_ift (b := _) (M := ⟨[(2, .ptr 0 0 0), (3, .ptr 1 0 0), (4, .ptr 2 0 0)], [(0, some ⟨44, 22, 0, [opC ((bif u.sa then { bare6 u o with SA := ⟨0, 0⟩, Zero := 0 } else bare6 u o))]⟩), (1, some ⟨181, 8, 0, [usesC u]⟩), (2, some ⟨44, 22, 0, [[.int .i64 0, .int .i64 0, .int .i64 0, .int .i64 0, .int .i64 0, .int .i64 0, .int .i64 0, .int .i64 0, .int .i64 0, .int .i64 0, .int .i64 0, .int .i64 0, .nils, .nils, .int .i64 0, .int .i64 0, .int .i64 0, .int .i64 0, .int .i64 0, .int .i64 0, .int .i64 0, .int .i64 0]]⟩)], [], 3⟩) (p := True) rfl (fun h39 => ?_) (fun h39 => ?_) (fun m39 => ?_)
  · refine zR ?_
    refine zLG [.int _ _, .int _ _] ?_
    refine zLP ?_
    refine zst (.agg [.int _ _, .int _ _]) [_, _] [[_, _, _, _, _, _, _, _, _, _, _, _, _, _, _, _, _, _, _, _, _, _]] ?_
    refine zLP ?_
    refine zst (.int _ _) [_] [[_, _, _, _, _, _, _, _, _, _, _, _, _, _, _, _, _, _, _, _, _, _]] ?_
    refine zn ?_
    exact ⟨trivial, le_t (F := fun X => ⟨[(2, .ptr 0 0 0), (3, .ptr 1 0 0), (4, .ptr 2 0 0)], [(0, some ⟨44, 22, 0, [opC (X)]⟩), (1, some ⟨181, 8, 0, [usesC u]⟩), (2, some ⟨44, 22, 0, [[.int .i64 0, .int .i64 0, .int .i64 0, .int .i64 0, .int .i64 0, .int .i64 0, .int .i64 0, .int .i64 0, .int .i64 0, .int .i64 0, .int .i64 0, .int .i64 0, .nils, .nils, .int .i64 0, .int .i64 0, .int .i64 0, .int .i64 0, .int .i64 0, .int .i64 0, .int .i64 0, .int .i64 0]]⟩)], [], 3⟩) (x := { bare6 u o with SA := ⟨0, 0⟩, Zero := 0 }) (y := bare6 u o) h39 (le_fit ⟨rfl, rfl, rfl, trivial⟩ ⟨.inr rfl, .inr rfl, .inr rfl, trivial⟩ trivial rfl rfl rfl rfl rfl)⟩
  · refine zk ?_
    exact ⟨trivial, le_f (F := fun X => ⟨[(2, .ptr 0 0 0), (3, .ptr 1 0 0), (4, .ptr 2 0 0)], [(0, some ⟨44, 22, 0, [opC (X)]⟩), (1, some ⟨181, 8, 0, [usesC u]⟩), (2, some ⟨44, 22, 0, [[.int .i64 0, .int .i64 0, .int .i64 0, .int .i64 0, .int .i64 0, .int .i64 0, .int .i64 0, .int .i64 0, .int .i64 0, .int .i64 0, .int .i64 0, .int .i64 0, .nils, .nils, .int .i64 0, .int .i64 0, .int .i64 0, .int .i64 0, .int .i64 0, .int .i64 0, .int .i64 0, .int .i64 0]]⟩)], [], 3⟩) (x := { bare6 u o with SA := ⟨0, 0⟩, Zero := 0 }) (y := bare6 u o) h39 (le_fit ⟨rfl, rfl, rfl, trivial⟩ ⟨.inr rfl, .inr rfl, .inr rfl, trivial⟩ trivial rfl rfl rfl rfl rfl)⟩
  refine zs ?_
  refine zs ?_
  refine zR ?_
  refine zLP ?_
  refine zLB ?_
  refine zn ?_
  refine W_ift (b := _) (M := ⟨[(2, .ptr 0 0 0), (3, .ptr 1 0 0), (4, .ptr 2 0 0)], [(0, some ⟨44, 22, 0, [opC ((bif u.sb then { bare7 u o with SB := ⟨0, 0⟩ } else bare7 u o))]⟩), (1, some ⟨181, 8, 0, [usesC u]⟩), (2, some ⟨44, 22, 0, [[.int .i64 0, .int .i64 0, .int .i64 0, .int .i64 0, .int .i64 0, .int .i64 0, .int .i64 0, .int .i64 0, .int .i64 0, .int .i64 0, .int .i64 0, .int .i64 0, .nils, .nils, .int .i64 0, .int .i64 0, .int .i64 0, .int .i64 0, .int .i64 0, .int .i64 0, .int .i64 0, .int .i64 0]]⟩)], [], 3⟩) (p := True) rfl (fun h44 => ?_) (fun h44 => ?_) (fun m44 => ?_)
  · refine zR ?_
    refine zLG [.int _ _, .int _ _] ?_
    refine zLP ?_
    refine zst (.agg [.int _ _, .int _ _]) [_, _] [[_, _, _, _, _, _, _, _, _, _, _, _, _, _, _, _, _, _, _, _, _, _]] ?_
    refine zn ?_
    exact ⟨trivial, le_t (F := fun X => ⟨[(2, .ptr 0 0 0), (3, .ptr 1 0 0), (4, .ptr 2 0 0)], [(0, some ⟨44, 22, 0, [opC (X)]⟩), (1, some ⟨181, 8, 0, [usesC u]⟩), (2, some ⟨44, 22, 0, [[.int .i64 0, .int .i64 0, .int .i64 0, .int .i64 0, .int .i64 0, .int .i64 0, .int .i64 0, .int .i64 0, .int .i64 0, .int .i64 0, .int .i64 0, .int .i64 0, .nils, .nils, .int .i64 0, .int .i64 0, .int .i64 0, .int .i64 0, .int .i64 0, .int .i64 0, .int .i64 0, .int .i64 0]]⟩)], [], 3⟩) (x := { bare7 u o with SB := ⟨0, 0⟩ }) (y := bare7 u o) h44 (le_fit ⟨rfl, rfl, rfl, trivial⟩ ⟨.inr rfl, .inr rfl, .inr rfl, trivial⟩ trivial rfl rfl rfl rfl rfl)⟩
  · refine zk ?_
    exact ⟨trivial, le_f (F := fun X => ⟨[(2, .ptr 0 0 0), (3, .ptr 1 0 0), (4, .ptr 2 0 0)], [(0, some ⟨44, 22, 0, [opC (X)]⟩), (1, some ⟨181, 8, 0, [usesC u]⟩), (2, some ⟨44, 22, 0, [[.int .i64 0, .int .i64 0, .int .i64 0, .int .i64 0, .int .i64 0, .int .i64 0, .int .i64 0, .int .i64 0, .int .i64 0, .int .i64 0, .int .i64 0, .int .i64 0, .nils, .nils, .int .i64 0, .int .i64 0, .int .i64 0, .int .i64 0, .int .i64 0, .int .i64 0, .int .i64 0, .int .i64 0]]⟩)], [], 3⟩) (x := { bare7 u o with SB := ⟨0, 0⟩ }) (y := bare7 u o) h44 (le_fit ⟨rfl, rfl, rfl, trivial⟩ ⟨.inr rfl, .inr rfl, .inr rfl, trivial⟩ trivial rfl rfl rfl rfl rfl)⟩
  refine zs ?_
  refine zs ?_
  refine zR ?_
  refine zLP ?_
  refine zLB ?_
  refine zn ?_
  refine W_ift (b := _) (M := ⟨[(2, .ptr 0 0 0), (3, .ptr 1 0 0), (4, .ptr 2 0 0)], [(0, some ⟨44, 22, 0, [opC ((bif u.pad then { bare8 u o with Pad := 0 } else bare8 u o))]⟩), (1, some ⟨181, 8, 0, [usesC u]⟩), (2, some ⟨44, 22, 0, [[.int .i64 0, .int .i64 0, .int .i64 0, .int .i64 0, .int .i64 0, .int .i64 0, .int .i64 0, .int .i64 0, .int .i64 0, .int .i64 0, .int .i64 0, .int .i64 0, .nils, .nils, .int .i64 0, .int .i64 0, .int .i64 0, .int .i64 0, .int .i64 0, .int .i64 0, .int .i64 0, .int .i64 0]]⟩)], [], 3⟩) (p := True) rfl (fun h48 => ?_) (fun h48 => ?_) (fun m48 => ?_)
  · refine zR ?_
    refine zLP ?_
    refine zst (.int _ _) [_] [[_, _, _, _, _, _, _, _, _, _, _, _, _, _, _, _, _, _, _, _, _, _]] ?_
    refine zn ?_
    exact ⟨trivial, le_t (F := fun X => ⟨[(2, .ptr 0 0 0), (3, .ptr 1 0 0), (4, .ptr 2 0 0)], [(0, some ⟨44, 22, 0, [opC (X)]⟩), (1, some ⟨181, 8, 0, [usesC u]⟩), (2, some ⟨44, 22, 0, [[.int .i64 0, .int .i64 0, .int .i64 0, .int .i64 0, .int .i64 0, .int .i64 0, .int .i64 0, .int .i64 0, .int .i64 0, .int .i64 0, .int .i64 0, .int .i64 0, .nils, .nils, .int .i64 0, .int .i64 0, .int .i64 0, .int .i64 0, .int .i64 0, .int .i64 0, .int .i64 0, .int .i64 0]]⟩)], [], 3⟩) (x := { bare8 u o with Pad := 0 }) (y := bare8 u o) h48 (le_fit ⟨rfl, rfl, rfl, trivial⟩ ⟨.inr rfl, .inr rfl, .inr rfl, trivial⟩ trivial rfl rfl rfl rfl rfl)⟩
  · refine zk ?_
    exact ⟨trivial, le_f (F := fun X => ⟨[(2, .ptr 0 0 0), (3, .ptr 1 0 0), (4, .ptr 2 0 0)], [(0, some ⟨44, 22, 0, [opC (X)]⟩), (1, some ⟨181, 8, 0, [usesC u]⟩), (2, some ⟨44, 22, 0, [[.int .i64 0, .int .i64 0, .int .i64 0, .int .i64 0, .int .i64 0, .int .i64 0, .int .i64 0, .int .i64 0, .int .i64 0, .int .i64 0, .int .i64 0, .int .i64 0, .nils, .nils, .int .i64 0, .int .i64 0, .int .i64 0, .int .i64 0, .int .i64 0, .int .i64 0, .int .i64 0, .int .i64 0]]⟩)], [], 3⟩) (x := { bare8 u o with Pad := 0 }) (y := bare8 u o) h48 (le_fit ⟨rfl, rfl, rfl, trivial⟩ ⟨.inr rfl, .inr rfl, .inr rfl, trivial⟩ trivial rfl rfl rfl rfl rfl)⟩
  refine zs ?_
  refine zR ?_
  refine zLG [.int _ _, .int _ _, .int _ _, .int _ _, .int _ _, .int _ _, .int _ _, .int _ _, .int _ _, .int _ _, .int _ _, .int _ _, _, _, .int _ _, .int _ _, .int _ _, .int _ _, .int _ _, .int _ _, .int _ _, .int _ _] ?_
  refine zst (.agg [.int _ _, .int _ _, .int _ _, .int _ _, .int _ _, .int _ _, .int _ _, .int _ _, .int _ _, .int _ _, .int _ _, .int _ _, _, _, .int _ _, .int _ _, .int _ _, .int _ _, .int _ _, .int _ _, .int _ _, .int _ _]) [_, _, _, _, _, _, _, _, _, _, _, _, _, _, _, _, _, _, _, _, _, _] [[_, _, _, _, _, _, _, _, _, _, _, _, _, _, _, _, _, _, _, _, _, _]] ?_
  refine zn ?_
  refine zt ?_
  refine ends (l := [.agg [.int _ _, .int _ _, .int _ _, .int _ _, .int _ _, .int _ _, .int _ _, .int _ _, .int _ _, .int _ _, .int _ _, .int _ _, _, _, .int _ _, .int _ _, .int _ _, .int _ _, .int _ _, .int _ _, .int _ _, .int _ _]]) (q := .agg [.int _ _, .int _ _, .int _ _, .int _ _, .int _ _, .int _ _, .int _ _, .int _ _, .int _ _, .int _ _, .int _ _, .int _ _, _, _, .int _ _, .int _ _, .int _ _, .int _ _, .int _ _, .int _ _, .int _ _, .int _ _]) (.inr rfl) rfl ⟨rfl, trivial⟩ rfl rfl ?_
  rfl
def winEq (a b : Window) : Bool := a.KH == b.KH && (a.KW == b.KW && (a.SH == b.SH && (a.SW == b.SW && (a.Top == b.Top && (a.Left == b.Left && (a.Bottom == b.Bottom && a.Right == b.Right))))))
def shapeEq (a b : Shape) : Bool := a.H == b.H && (a.W == b.W && a.C == b.C)
def emptyB (o : MOp) : Bool := o.Kind == 0 && o.A == 0 && o.B == 0 && o.M == 0 && winEq o.Win ⟨0, 0, 0, 0, 0, 0, 0, 0⟩ && (o.Weights.length : Int) == 0 && (o.Bias.length : Int) == 0 && (o.SA.Mult == 0 && o.SA.Shift == 0) && (o.SB.Mult == 0 && o.SB.Shift == 0) && o.Zero == 0 && o.Pad == 0 && o.Lo == 0 && o.Hi == 0
theorem model_empty (o : MOp) : Ok Try.prog 113 [.agg (opC o)] (.bool (emptyB o)) := by
  refine fn_ok Tb_ok (fn := Try.f113) Try.func113 rfl rfl (e := [(0, _)]) rfl (by decide) rfl ?_
  refine zs ?_
  refine zR ?_
  refine zbx [.int _ _, .int _ _, .int _ _, .int _ _, .int _ _, .int _ _, .int _ _, .int _ _, .int _ _, .int _ _, .int _ _, .int _ _, _, _, .int _ _, .int _ _, .int _ _, .int _ _, .int _ _, .int _ _, .int _ _, .int _ _] 22 ?_
  refine zLB ?_
  refine zn ?_
  refine zs ?_
  refine zR ?_
  refine zLP ?_
  refine zLI ?_
  refine zLB ?_
  refine zLB ?_
  refine zgLP ?_
  refine zgLI ?_
  refine zgLB ?_
  refine zpLB ?_
  refine zLB ?_
  refine zgLP ?_
  refine zgLI ?_
  refine zgLB ?_
  refine zpLB ?_
  refine zLB ?_
  refine zgLP ?_
  refine zgLI ?_
  refine zgLB ?_
  refine zpLB ?_
  refine zLB ?_
  refine zgLP ?_
  refine zgLG [.int _ _, .int _ _, .int _ _, .int _ _, .int _ _, .int _ _, .int _ _, .int _ _] ?_
  refine zgLG [.int _ _, .int _ _, .int _ _, .int _ _, .int _ _, .int _ _, .int _ _, .int _ _] ?_
  refine zgLB ?_
  refine zpLB ?_
  refine zLB ?_
  refine zgLP ?_
  refine zgLO ?_
  refine zgLI ?_
  refine zgLB ?_
  refine zpLB ?_
  refine zLB ?_
  refine zgLP ?_
  refine zgLO ?_
  refine zgLI ?_
  refine zgLB ?_
  refine zpLB ?_
  refine zLB ?_
  refine zgLP ?_
  refine zgLG [.int _ _, .int _ _] ?_
  refine zgLG [.int _ _, .int _ _] ?_
  refine zgLB ?_
  refine zpLB ?_
  refine zLB ?_
  refine zgLP ?_
  refine zgLG [.int _ _, .int _ _] ?_
  refine zgLG [.int _ _, .int _ _] ?_
  refine zgLB ?_
  refine zpLB ?_
  refine zLB ?_
  refine zgLP ?_
  refine zgLI ?_
  refine zgLB ?_
  refine zpLB ?_
  refine zLB ?_
  refine zgLP ?_
  refine zgLI ?_
  refine zgLB ?_
  refine zpLB ?_
  refine zLB ?_
  refine zgLP ?_
  refine zgLI ?_
  refine zgLB ?_
  refine zpLB ?_
  refine zLB ?_
  refine zgLP ?_
  refine zgLI ?_
  refine zgLB ?_
  refine zpLB ?_
  refine zLB ?_
  refine zn ?_
  refine zt ?_
  refine ends (l := [.bool _]) (q := .bool _) (.inr rfl) rfl ⟨trivial, trivial⟩ rfl rfl ?_
  simp [emptyB, winEq]
end Go.AM
end
section
open Go Go.AM Go.Proofs
set_option maxRecDepth 10000
set_option linter.unusedVariables false
set_option linter.unusedSimpArgs false
namespace Go.AM
theorem w_succ {k n : Nat} (h : k < n) (hn : n ≤ 4611686018427387904) : IntKind.i64.wrap ((k : Int) + 1) = ((k + 1 : Nat) : Int) := by rw [IntKind.wrap_i64]; omega
def bytesB (l : List Int) : Bool := l.all fun n => inB n (-128) 127
theorem bytesB_at {l : List Int} {k : Nat} (hk : k < l.length) (h : (l.take k).all (fun n => inB n (-128) 127) = true) (hn : inB (l.getD k 0) (-128) 127 = true) : (l.take (k + 1)).all (fun n => inB n (-128) 127) = true := by
  rw [List.take_add_one, List.all_append, h]
  simp only [List.getD_eq_getElem?_getD, List.getElem?_eq_getElem hk, Option.getD_some] at hn
  simp [List.getElem?_eq_getElem hk, hn]
theorem bytesB_no {l : List Int} {k : Nat} (hk : k < l.length) (hn : inB (l.getD k 0) (-128) 127 = false) : bytesB l = false := by
  simp only [List.getD_eq_getElem?_getD, List.getElem?_eq_getElem hk, Option.getD_some] at hn
  simp only [bytesB, List.all_eq_false]
  exact ⟨l[k], List.getElem_mem hk, by simp [hn]⟩
theorem model_byte8 (l : List Int) (hl : l.length ≤ 4611686018427387904) : Ok Try.prog 99 [.ro (l.map intC)] (.bool (bytesB l)) := by
  refine fn_ok Tb_ok (fn := Try.f99) Try.func99 rfl rfl (e := [(0, _)]) rfl (by decide) rfl ?_
  refine zs ?_
  refine zR ?_
  refine zLB ?_
  refine zn ?_
  refine zs ?_
  refine zs ?_
  refine zR ?_
  refine zLO ?_
  refine zLI ?_
  refine zLI ?_
  refine zn ?_
  refine W_block ?_
  refine W_inv (ι := {k : Nat // k ≤ l.length ∧ (l.take k).all (fun n => inB n (-128) 127) = true}) (fun k => ⟨[(5, .ro (l.map intC)), (6, .int .i64 ((l.map intC).length : Int)), (7, .int .i64 (k.1 : Int))], [], [], 0⟩) (fun k => l.length - k.1) ⟨0, by simp, by simp⟩ (le_fit ⟨rfl, rfl, rfl, trivial⟩ trivial trivial rfl rfl rfl rfl rfl) ?_
  rintro ⟨k, hk, ha⟩
  refine zs ?_
  refine zR ?_
  refine zLB ?_
  refine zn ?_
  refine zs ?_
  refine W_cond (b := _) rfl (fun h8 => ?_) (fun h8 => ?_)
  · refine zk ?_
    refine zs ?_
    refine W_block ?_
    refine zs ?_
    refine zR ?_
    (refine L_v Tb_ok (v := _) (ave_index_ro rfl rfl rfl (fun _ => rfl) rfl (by first | omega | assumption | decide | (simp_all; done) | (simp_all; omega)) (by first | omega | assumption | decide | (simp_all; done) | (simp_all; omega)) trivial) rfl ?_)
    refine zLI ?_
    refine zLI ?_
    refine zn ?_
    refine zs ?_
    refine zR ?_
    refine zLI ?_
    refine zLB ?_
    refine zLB ?_
    refine zgLI ?_
    refine zgLB ?_
    refine zpLB ?_
    refine zn ?_
    refine W_cond (b := _) rfl (fun h16 => ?_) (fun h16 => ?_)
    · refine zs ?_
      refine zR ?_
      refine zLB ?_
      refine zn ?_
      refine zt ?_
      refine ends (l := [.bool _]) (q := .bool _) (.inr rfl) rfl ⟨trivial, trivial⟩ rfl rfl ?_
      first
      | (have he : k = l.length := (by simp at h8; omega)
         rw [he, List.take_length] at ha
         rw [bytesB, ha]; done)
      | (rw [bytesB_no (k := k) (by simpa using h8) (by simp_all [inB]; try omega)])
    · refine zk ?_
      refine zR ?_
      refine zLI ?_
      refine zLI ?_
      refine zn ?_
      have hlt : k < l.length := by simpa using h8
      refine round_end ⟨k + 1, by omega, bytesB_at hlt ha (by simp_all [inB]; try omega)⟩ (by dsimp only; omega) (le_fit ⟨rfl, rfl, congrArg _ (w_succ hlt hl), trivial⟩ trivial trivial rfl rfl rfl rfl rfl)
  · refine W_exit ?_
    repeat (first | refine pass_then ?_ | refine pass_round ?_)
    refine blockQ_hit ?_
    refine zs ?_
    refine zR ?_
    refine zLB ?_
    refine zn ?_
    refine zt ?_
    refine ends (l := [.bool _]) (q := .bool _) (.inr rfl) rfl ⟨trivial, trivial⟩ rfl rfl ?_
    first
    | (have he : k = l.length := (by simp at h8; omega)
       rw [he, List.take_length] at ha
       rw [bytesB, ha]; done)
    | (rw [bytesB_no (k := k) (by simpa using h8) (by simp_all [inB]; try omega)])
def mkX (o : MOp) (a : Shape) : Shape × Int := bif (ofU o.Kind).win then (⟨outH a o.Win, outW a o.Win, a.C⟩, w64 (o.Win.KH * o.Win.KW)) else (a, 1)
def mkE (o : MOp) (a : Shape) : Int := bif (ofU o.Kind).win then outE a o.Win else 0
def mkS (o : MOp) (a : Shape) : Shape := if mkE o a = 0 then if o.Kind = 1 then ⟨1, 1, o.M⟩ else if o.Kind = 2 then { (mkX o a).1 with C := o.M } else (mkX o a).1 else ⟨0, 0, 0⟩
def mkL (o : MOp) (a : Shape) : Int := if mkE o a = 0 then if o.Kind = 1 then w64 (w64 (a.H * a.W) * a.C) else if o.Kind = 2 then w64 ((mkX o a).2 * a.C) else if o.Kind = 3 ∨ o.Kind = 4 then (mkX o a).2 else 0 else 0
def mkT (o : MOp) (a : Shape) : Int := if o.Kind = 1 ∨ o.Kind = 2 then mkL o a else (mkX o a).2
def mkW (o : MOp) (a : Shape) : Int := if mkE o a = 0 then w64 (w64 (w64 ((mkS o a).H * (mkS o a).W) * (mkS o a).C) * mkT o a) else 0
theorem model_makes (o : MOp) (a : Shape) : Ok Try.prog 115 [.agg (opC o), .agg (shapeC a)] (.tup [.agg (shapeC (mkS o a)), .int .i64 (mkL o a), .int .i64 (mkW o a), .int .i64 (mkE o a)]) := by
  refine fn_ok Tb_ok (fn := Try.f115) Try.func115 rfl rfl (e := [(0, _), (1, _)]) rfl (by decide) rfl ?_
  refine zs ?_
  refine zR ?_
  refine zbx [.int _ _, .int _ _, .int _ _, .int _ _, .int _ _, .int _ _, .int _ _, .int _ _, .int _ _, .int _ _, .int _ _, .int _ _, _, _, .int _ _, .int _ _, .int _ _, .int _ _, .int _ _, .int _ _, .int _ _, .int _ _] 22 ?_
  refine zbx [.int _ _, .int _ _, .int _ _] 3 ?_
  refine zal [.int .i64 0, .int .i64 0, .int .i64 0] 3 ?_
  refine zLI ?_
  refine zLI ?_
  refine zLI ?_
  refine zn ?_
  refine zs ?_
  refine zR ?_
  refine zLP ?_
  refine zLI ?_
  refine zLc (model_of o.Kind) ?_
  refine zLT [_, _] ?_
  refine zLG [.bool _, .bool _, .bool _, .bool _, .bool _, .bool _, .bool _, .bool _] ?_
  refine zLB ?_
  refine zal [.bool false, .bool false, .bool false, .bool false, .bool false, .bool false, .bool false, .bool false] 8 ?_
  refine zst (.agg [.bool _, .bool _, .bool _, .bool _, .bool _, .bool _, .bool _, .bool _]) [_, _, _, _, _, _, _, _] [[_, _, _, _, _, _, _, _]] ?_
  refine zLB ?_
  refine zn ?_
  refine zs ?_
  refine zR ?_
  refine zLG [.int _ _, .int _ _, .int _ _] ?_
  refine zal [.int .i64 0, .int .i64 0, .int .i64 0] 3 ?_
  refine zst (.agg [.int _ _, .int _ _, .int _ _]) [_, _, _] [[_, _, _]] ?_
  refine zLI ?_
  refine zn ?_
  refine zs ?_
  refine zs ?_
  refine zR ?_
  refine zLP ?_
  refine zLB ?_
  refine zn ?_
  refine W_ift (b := _) (M := ⟨[(2, .ptr 0 0 0), (3, .ptr 1 0 0), (4, .ptr 2 0 0), (10, .ptr 4 0 0), (11, .int .i64 ((bif (ofU o.Kind).win then (⟨outH a o.Win, outW a o.Win, a.C⟩, w64 (o.Win.KH * o.Win.KW)) else (a, (1 : Int)))).2)], [(0, some ⟨44, 22, 0, [opC o]⟩), (1, some ⟨23, 3, 0, [shapeC a]⟩), (2, some ⟨23, 3, 0, [[.int .i64 0, .int .i64 0, .int .i64 0]]⟩), (4, some ⟨23, 3, 0, [shapeC ((bif (ofU o.Kind).win then (⟨outH a o.Win, outW a o.Win, a.C⟩, w64 (o.Win.KH * o.Win.KW)) else (a, (1 : Int)))).1]⟩)], [], 5⟩) (p := mkE o a = 0) rfl (fun h24 => ?_) (fun h24 => ?_) (fun m24 => ?_)
  · refine zs ?_
    refine zR ?_
    refine zLG [.int _ _, .int _ _, .int _ _] ?_
    refine zLP ?_
    refine zLG [.int _ _, .int _ _, .int _ _, .int _ _, .int _ _, .int _ _, .int _ _, .int _ _] ?_
    refine zLc (window_Out a o.Win) ?_
    refine zLT [_, _, _] ?_
    refine zLI ?_
    refine zLI ?_
    refine zLI ?_
    refine zLI ?_
    refine zLI ?_
    refine zLI ?_
    refine zn ?_
    refine zs ?_
    refine zs ?_
    refine zR ?_
    refine zLI ?_
    refine zLB ?_
    refine zn ?_
    refine W_cond (b := _) rfl (fun h34 => ?_) (fun h34 => ?_)
    · refine zs ?_
      refine zR ?_
      refine zLG [.int _ _, .int _ _, .int _ _] ?_
      refine zLI ?_
      refine zst (.agg [.int _ _, .int _ _, .int _ _]) [_, _, _] [[_, _, _]] ?_
      refine zLI ?_
      refine zLI ?_
      refine zLI ?_
      refine zn ?_
      refine zt ?_
      refine ends (l := [.agg [.int _ _, .int _ _, .int _ _], .int _ _, .int _ _, .int _ _]) (q := .tup [.agg [.int _ _, .int _ _, .int _ _], .int _ _, .int _ _, .int _ _]) (.inr rfl) rfl ⟨rfl, trivial, trivial, trivial, trivial⟩ rfl rfl ?_
      (simp_all [mkX, mkE, mkS, mkL, mkT, mkW, w64, shapeC]; done)
    · refine zk ?_
      refine W_drawF (fun e => [idOf (get e 10)]) 10 [[10, 11, 12, 13]] Tb_mixed rfl (by decide) (by kernel_rfl) ?_
      refine zSI ?_
      refine zSI ?_
      refine zSP ?_
      refine zSP ?_
      refine zSI ?_
      refine zSP ?_
      refine zSP ?_
      refine zSI ?_
      refine zSI ?_
      refine zSP ?_
      refine S_nil ?_
      refine TT_one ?_
      refine TT_store Tb_ok (OSub_forget _ _) rfl (v := .int _ _) (cs := [_]) (es' := [[_, _, _]]) rfl rfl rfl rfl rfl rfl rfl rfl rfl rfl rfl ⟨trivial, trivial⟩ (fun ht1 => ?_)
      refine TT_v Tb_ok ht1 rfl (v := .ptr _ _ _) (av rfl ⟨trivial, trivial⟩) rfl (fun ht2 => ?_)
      refine TT_store Tb_ok ht2 rfl (v := .int _ _) (cs := [_]) (es' := [[_, _, _]]) rfl rfl rfl rfl rfl rfl rfl rfl rfl rfl rfl ⟨trivial, trivial⟩ (fun ht3 => ?_)
      refine TT_v Tb_ok ht3 rfl (v := .int _ _) (av rfl ⟨trivial, trivial⟩) rfl (fun ht4 => ?_)
      refine TT_nil ?_
      try clear ht4
      try clear ht3
      try clear ht2
      try clear ht1
      exact ⟨by simp_all [mkE], le_t (F := fun X => ⟨[(2, .ptr 0 0 0), (3, .ptr 1 0 0), (4, .ptr 2 0 0), (10, .ptr 4 0 0), (11, .int .i64 (X).2)], [(0, some ⟨44, 22, 0, [opC o]⟩), (1, some ⟨23, 3, 0, [shapeC a]⟩), (2, some ⟨23, 3, 0, [[.int .i64 0, .int .i64 0, .int .i64 0]]⟩), (4, some ⟨23, 3, 0, [shapeC (X).1]⟩)], [], 5⟩) (x := (⟨outH a o.Win, outW a o.Win, a.C⟩, w64 (o.Win.KH * o.Win.KW))) (y := (a, (1 : Int))) h24 (le_fit ⟨rfl, rfl, rfl, rfl, rfl, trivial⟩ ⟨.inr rfl, .inr rfl, .inr rfl, .inr rfl, trivial⟩ trivial rfl rfl rfl rfl rfl)⟩
  · refine zk ?_
    exact ⟨by simp_all [mkE], le_f (F := fun X => ⟨[(2, .ptr 0 0 0), (3, .ptr 1 0 0), (4, .ptr 2 0 0), (10, .ptr 4 0 0), (11, .int .i64 (X).2)], [(0, some ⟨44, 22, 0, [opC o]⟩), (1, some ⟨23, 3, 0, [shapeC a]⟩), (2, some ⟨23, 3, 0, [[.int .i64 0, .int .i64 0, .int .i64 0]]⟩), (4, some ⟨23, 3, 0, [shapeC (X).1]⟩)], [], 5⟩) (x := (⟨outH a o.Win, outW a o.Win, a.C⟩, w64 (o.Win.KH * o.Win.KW))) (y := (a, (1 : Int))) h24 (le_fit ⟨rfl, rfl, rfl, rfl, rfl, trivial⟩ ⟨.inr rfl, .inr rfl, .inr rfl, .inr rfl, trivial⟩ trivial rfl rfl rfl rfl rfl)⟩
  refine zs ?_
  refine zR ?_
  refine zLI ?_
  refine zn ?_
  refine zs ?_
  refine zs ?_
  refine zR ?_
  refine zLP ?_
  refine zLI ?_
  refine zn ?_
  refine W_block ?_
  refine zs ?_
  refine zR ?_
  refine zLB ?_
  refine zLB ?_
  refine zn ?_
  refine W_cond (b := _) rfl (fun h50 => ?_) (fun h50 => ?_)
  · refine zs ?_
    refine W_draw 12 Tb_mixed rfl (by decide) (by kernel_rfl) (by kernel_rfl) ?_
    refine zEP ?_
    refine zEI ?_
    refine zEP ?_
    refine zEI ?_
    refine zEI ?_
    refine zEP ?_
    refine zEI ?_
    refine zEI ?_
    refine zEP ?_
    refine zEI ?_
    refine zEG [.int _ _, .int _ _, .int _ _] ?_
    refine zEI ?_
    refine LexE_nil ?_
    refine zst (.agg [.int _ _, .int _ _, .int _ _]) [_, _, _] [[_, _, _]] ?_
    refine zn ?_
    refine zR ?_
    refine zLI ?_
    refine zLI ?_
    refine zn ?_
    refine zs ?_
    refine W_drawF (fun e => [idOf (get e 4)]) 12 [[12, 13, 14, 15]] Tb_mixed rfl (by decide) (by kernel_rfl) ?_
    refine zSG [.int _ _, .int _ _, .int _ _] ?_
    refine zSI ?_
    refine zSP ?_
    refine zSI ?_
    refine zSP ?_
    refine zSI ?_
    refine zSI ?_
    refine zSP ?_
    refine zSI ?_
    refine zSI ?_
    refine zSI ?_
    refine zSI ?_
    refine S_nil ?_
    refine TT_one ?_
    refine TT_store Tb_ok (OSub_forget _ _) rfl (v := .agg [.int _ _, .int _ _, .int _ _]) (cs := [_, _, _]) (es' := [[_, _, _]]) rfl rfl rfl rfl rfl rfl rfl rfl rfl rfl rfl ⟨trivial, trivial⟩ (fun ht1 => ?_)
    refine TT_v Tb_ok ht1 rfl (v := .int _ _) (av rfl ⟨trivial, trivial⟩) rfl (fun ht2 => ?_)
    refine TT_v Tb_ok ht2 rfl (v := .int _ _) (av rfl ⟨trivial, trivial⟩) rfl (fun ht3 => ?_)
    refine TT_v Tb_ok ht3 rfl (v := .int _ _) (av rfl ⟨trivial, trivial⟩) rfl (fun ht4 => ?_)
    refine TT_nil ?_
    try clear ht4
    try clear ht3
    try clear ht2
    try clear ht1
    refine zt ?_
    refine ends (l := [.agg [.int _ _, .int _ _, .int _ _], .int _ _, .int _ _, .int _ _]) (q := .tup [.agg [.int _ _, .int _ _, .int _ _], .int _ _, .int _ _, .int _ _]) (.inr rfl) rfl ⟨rfl, trivial, trivial, trivial, trivial⟩ rfl rfl ?_
    (simp_all [mkX, mkE, mkS, mkL, mkT, mkW, w64, shapeC]; done)
  · refine zs ?_
    refine zR ?_
    refine zLB ?_
    refine zLB ?_
    refine zn ?_
    refine W_cond (b := _) rfl (fun h64 => ?_) (fun h64 => ?_)
    · refine zs ?_
      refine zR ?_
      refine zLI ?_
      refine zLP ?_
      refine zLI ?_
      refine zLI ?_
      refine zLI ?_
      refine zn ?_
      refine W_draw 5 Tb_mixed rfl (by decide) (by kernel_rfl) (by kernel_rfl) ?_
      refine zEI ?_
      refine zEP ?_
      refine zEI ?_
      refine zEI ?_
      refine zEP ?_
      refine LexE_nil ?_
      refine zst (.int _ _) [_] [[_, _, _]] ?_
      refine zn ?_
      refine zs ?_
      refine W_drawF (fun e => [idOf (get e 4)]) 12 [[12, 13, 14, 15]] Tb_mixed rfl (by decide) (by kernel_rfl) ?_
      refine zSG [.int _ _, .int _ _, .int _ _] ?_
      refine zSI ?_
      refine zSP ?_
      refine zSI ?_
      refine zSP ?_
      refine zSI ?_
      refine zSI ?_
      refine zSP ?_
      refine zSI ?_
      refine zSI ?_
      refine zSI ?_
      refine zSI ?_
      refine S_nil ?_
      refine TT_one ?_
      refine TT_store Tb_ok (OSub_forget _ _) rfl (v := .agg [.int _ _, .int _ _, .int _ _]) (cs := [_, _, _]) (es' := [[_, _, _]]) rfl rfl rfl rfl rfl rfl rfl rfl rfl rfl rfl ⟨trivial, trivial⟩ (fun ht1 => ?_)
      refine TT_v Tb_ok ht1 rfl (v := .int _ _) (av rfl ⟨trivial, trivial⟩) rfl (fun ht2 => ?_)
      refine TT_v Tb_ok ht2 rfl (v := .int _ _) (av rfl ⟨trivial, trivial⟩) rfl (fun ht3 => ?_)
      refine TT_v Tb_ok ht3 rfl (v := .int _ _) (av rfl ⟨trivial, trivial⟩) rfl (fun ht4 => ?_)
      refine TT_nil ?_
      try clear ht4
      try clear ht3
      try clear ht2
      try clear ht1
      refine zt ?_
      refine ends (l := [.agg [.int _ _, .int _ _, .int _ _], .int _ _, .int _ _, .int _ _]) (q := .tup [.agg [.int _ _, .int _ _, .int _ _], .int _ _, .int _ _, .int _ _]) (.inr rfl) rfl ⟨rfl, trivial, trivial, trivial, trivial⟩ rfl rfl ?_
      (simp_all [mkX, mkE, mkS, mkL, mkT, mkW, w64, shapeC]; done)
    · refine zs ?_
      refine zs ?_
      refine zR ?_
      refine zLB ?_
      refine zLB ?_
      refine zn ?_
      refine W_cond (b := _) rfl (fun h74 => ?_) (fun h74 => ?_)
      · refine zk ?_
        refine W_cond (b := _) rfl (fun h74_1 => ?_) (fun h74_1 => ?_)
        · refine zR ?_
          refine zLI ?_
          refine zLI ?_
          refine zn ?_
          refine zs ?_
          refine W_drawF (fun e => [idOf (get e 4)]) 12 [[12, 13, 14, 15]] Tb_mixed rfl (by decide) (by kernel_rfl) ?_
          refine zSG [.int _ _, .int _ _, .int _ _] ?_
          refine zSI ?_
          refine zSP ?_
          refine zSI ?_
          refine zSP ?_
          refine zSI ?_
          refine zSI ?_
          refine zSP ?_
          refine zSI ?_
          refine zSI ?_
          refine zSI ?_
          refine zSI ?_
          refine S_nil ?_
          refine TT_one ?_
          refine TT_store Tb_ok (OSub_forget _ _) rfl (v := .agg [.int _ _, .int _ _, .int _ _]) (cs := [_, _, _]) (es' := [[_, _, _]]) rfl rfl rfl rfl rfl rfl rfl rfl rfl rfl rfl ⟨trivial, trivial⟩ (fun ht1 => ?_)
          refine TT_v Tb_ok ht1 rfl (v := .int _ _) (av rfl ⟨trivial, trivial⟩) rfl (fun ht2 => ?_)
          refine TT_v Tb_ok ht2 rfl (v := .int _ _) (av rfl ⟨trivial, trivial⟩) rfl (fun ht3 => ?_)
          refine TT_v Tb_ok ht3 rfl (v := .int _ _) (av rfl ⟨trivial, trivial⟩) rfl (fun ht4 => ?_)
          refine TT_nil ?_
          try clear ht4
          try clear ht3
          try clear ht2
          try clear ht1
          refine zt ?_
          refine ends (l := [.agg [.int _ _, .int _ _, .int _ _], .int _ _, .int _ _, .int _ _]) (q := .tup [.agg [.int _ _, .int _ _, .int _ _], .int _ _, .int _ _, .int _ _]) (.inr rfl) rfl ⟨rfl, trivial, trivial, trivial, trivial⟩ rfl rfl ?_
          (simp_all [mkX, mkE, mkS, mkL, mkT, mkW, w64, shapeC]; done)
        · refine zk ?_
          refine zs ?_
          refine W_drawF (fun e => [idOf (get e 4)]) 12 [[12, 13, 14, 15]] Tb_mixed rfl (by decide) (by kernel_rfl) ?_
          refine zSG [.int _ _, .int _ _, .int _ _] ?_
          refine zSI ?_
          refine zSP ?_
          refine zSI ?_
          refine zSP ?_
          refine zSI ?_
          refine zSI ?_
          refine zSP ?_
          refine zSI ?_
          refine zSI ?_
          refine zSI ?_
          refine zSI ?_
          refine S_nil ?_
          refine TT_one ?_
          refine TT_store Tb_ok (OSub_forget _ _) rfl (v := .agg [.int _ _, .int _ _, .int _ _]) (cs := [_, _, _]) (es' := [[_, _, _]]) rfl rfl rfl rfl rfl rfl rfl rfl rfl rfl rfl ⟨trivial, trivial⟩ (fun ht1 => ?_)
          refine TT_v Tb_ok ht1 rfl (v := .int _ _) (av rfl ⟨trivial, trivial⟩) rfl (fun ht2 => ?_)
          refine TT_v Tb_ok ht2 rfl (v := .int _ _) (av rfl ⟨trivial, trivial⟩) rfl (fun ht3 => ?_)
          refine TT_v Tb_ok ht3 rfl (v := .int _ _) (av rfl ⟨trivial, trivial⟩) rfl (fun ht4 => ?_)
          refine TT_nil ?_
          try clear ht4
          try clear ht3
          try clear ht2
          try clear ht1
          refine zt ?_
          refine ends (l := [.agg [.int _ _, .int _ _, .int _ _], .int _ _, .int _ _, .int _ _]) (q := .tup [.agg [.int _ _, .int _ _, .int _ _], .int _ _, .int _ _, .int _ _]) (.inr rfl) rfl ⟨rfl, trivial, trivial, trivial, trivial⟩ rfl rfl ?_
          (simp_all [mkX, mkE, mkS, mkL, mkT, mkW, w64, shapeC]; done)
      · refine zR ?_
        refine zLB ?_
        refine zLB ?_
        refine zn ?_
        refine W_cond (b := _) rfl (fun h74_2 => ?_) (fun h74_2 => ?_)
        · refine zR ?_
          refine zLI ?_
          refine zLI ?_
          refine zn ?_
          refine zs ?_
          refine W_drawF (fun e => [idOf (get e 4)]) 12 [[12, 13, 14, 15]] Tb_mixed rfl (by decide) (by kernel_rfl) ?_
          refine zSG [.int _ _, .int _ _, .int _ _] ?_
          refine zSI ?_
          refine zSP ?_
          refine zSI ?_
          refine zSP ?_
          refine zSI ?_
          refine zSI ?_
          refine zSP ?_
          refine zSI ?_
          refine zSI ?_
          refine zSI ?_
          refine zSI ?_
          refine S_nil ?_
          refine TT_one ?_
          refine TT_store Tb_ok (OSub_forget _ _) rfl (v := .agg [.int _ _, .int _ _, .int _ _]) (cs := [_, _, _]) (es' := [[_, _, _]]) rfl rfl rfl rfl rfl rfl rfl rfl rfl rfl rfl ⟨trivial, trivial⟩ (fun ht1 => ?_)
          refine TT_v Tb_ok ht1 rfl (v := .int _ _) (av rfl ⟨trivial, trivial⟩) rfl (fun ht2 => ?_)
          refine TT_v Tb_ok ht2 rfl (v := .int _ _) (av rfl ⟨trivial, trivial⟩) rfl (fun ht3 => ?_)
          refine TT_v Tb_ok ht3 rfl (v := .int _ _) (av rfl ⟨trivial, trivial⟩) rfl (fun ht4 => ?_)
          refine TT_nil ?_
          try clear ht4
          try clear ht3
          try clear ht2
          try clear ht1
          refine zt ?_
          refine ends (l := [.agg [.int _ _, .int _ _, .int _ _], .int _ _, .int _ _, .int _ _]) (q := .tup [.agg [.int _ _, .int _ _, .int _ _], .int _ _, .int _ _, .int _ _]) (.inr rfl) rfl ⟨rfl, trivial, trivial, trivial, trivial⟩ rfl rfl ?_
          (simp_all [mkX, mkE, mkS, mkL, mkT, mkW, w64, shapeC]; done)
        · refine zk ?_
          refine zs ?_
          refine W_drawF (fun e => [idOf (get e 4)]) 12 [[12, 13, 14, 15]] Tb_mixed rfl (by decide) (by kernel_rfl) ?_
          refine zSG [.int _ _, .int _ _, .int _ _] ?_
          refine zSI ?_
          refine zSP ?_
          refine zSI ?_
          refine zSP ?_
          refine zSI ?_
          refine zSI ?_
          refine zSP ?_
          refine zSI ?_
          refine zSI ?_
          refine zSI ?_
          refine zSI ?_
          refine S_nil ?_
          refine TT_one ?_
          refine TT_store Tb_ok (OSub_forget _ _) rfl (v := .agg [.int _ _, .int _ _, .int _ _]) (cs := [_, _, _]) (es' := [[_, _, _]]) rfl rfl rfl rfl rfl rfl rfl rfl rfl rfl rfl ⟨trivial, trivial⟩ (fun ht1 => ?_)
          refine TT_v Tb_ok ht1 rfl (v := .int _ _) (av rfl ⟨trivial, trivial⟩) rfl (fun ht2 => ?_)
          refine TT_v Tb_ok ht2 rfl (v := .int _ _) (av rfl ⟨trivial, trivial⟩) rfl (fun ht3 => ?_)
          refine TT_v Tb_ok ht3 rfl (v := .int _ _) (av rfl ⟨trivial, trivial⟩) rfl (fun ht4 => ?_)
          refine TT_nil ?_
          try clear ht4
          try clear ht3
          try clear ht2
          try clear ht1
          refine zt ?_
          refine ends (l := [.agg [.int _ _, .int _ _, .int _ _], .int _ _, .int _ _, .int _ _]) (q := .tup [.agg [.int _ _, .int _ _, .int _ _], .int _ _, .int _ _, .int _ _]) (.inr rfl) rfl ⟨rfl, trivial, trivial, trivial, trivial⟩ rfl rfl ?_
          (simp_all [mkX, mkE, mkS, mkL, mkT, mkW, w64, shapeC]; done)

end Go.AM
end
section
open Go Go.AM Go.Proofs
set_option maxRecDepth 10000
set_option linter.unusedVariables false
set_option linter.unusedSimpArgs false
namespace Go.AM
def op1 (o : MOp) : Bool := !inB o.Kind 1 8
def op2 (o : MOp) (l : List Shape) : Bool := bif bif decide (o.A < 0) then true else decide (o.A ≥ ((l.map shapeC).length : Int)) then true else bif (ofU o.Kind).b then bif decide (o.B < 0) then true else decide (o.B ≥ ((l.map shapeC).length : Int)) else false
def op3 (o : MOp) : Bool := !emptyB (bareF (ofU o.Kind) o)
def op4 (o : MOp) : Bool := bif (ofU o.Kind).m then bif decide (o.M < 1) then true else decide (o.M > 1024) else false
def inA (o : MOp) (l : List Shape) : Shape := l.getD o.A.toNat default
def inS (o : MOp) (l : List Shape) : Shape := l.getD o.B.toNat default
def op5 (o : MOp) (l : List Shape) : Bool := mkE o (inA o l) != 0
def shapeQ (a b : Shape) : Bool := a.H == b.H && (a.W == b.W && (a.C == b.C && true))
def op6 (o : MOp) (l : List Shape) : Bool := bif shapeE (mkS o (inA o l)) != 0 then true else bif (ofU o.Kind).b then !shapeQ (inS o l) (inA o l) else false
def opR (o : MOp) (l : List Shape) : Int := bif (ofU o.Kind).weights then (mkS o (inA o l)).C else 0
def op7 (o : MOp) (l : List Shape) : Bool := decide (mkL o (inA o l) > 512)
def op8 (o : MOp) (l : List Shape) : Bool := bif ((o.Weights.map i16C).length : Int) != w64 (opR o l * mkL o (inA o l)) then true else ((o.Bias.map i32C).length : Int) != opR o l
def scaleB (s : Scale) : Bool := inB s.Mult 1 2147483647 && inB s.Shift 0 62
def op9 (o : MOp) : Bool := bif bif (ofU o.Kind).sa then !scaleB o.SA else false then true else bif (ofU o.Kind).sb then !scaleB o.SB else false
def op10 (o : MOp) : Bool := bif !bytesB [o.Lo, o.Hi, o.Zero, o.Pad] then true else decide (o.Lo > o.Hi)
/-- the op's error -/
def opE (o : MOp) (l : List Shape) : Int := if op1 o then 81 else if op2 o l then 82 else if op3 o then 83 else if op4 o then 2 else if op5 o l then mkE o (inA o l) else if op6 o l then 50 else if op7 o l then 84 else if op8 o l then 70 else if op9 o then 20 else if op10 o then 85 else 0
def opS (o : MOp) (l : List Shape) : Shape := if op1 o then ⟨0, 0, 0⟩ else if op2 o l then ⟨0, 0, 0⟩ else if op3 o then ⟨0, 0, 0⟩ else if op4 o then ⟨0, 0, 0⟩ else if op5 o l then ⟨0, 0, 0⟩ else if op6 o l then ⟨0, 0, 0⟩ else if op7 o l then ⟨0, 0, 0⟩ else if op8 o l then ⟨0, 0, 0⟩ else if op9 o then ⟨0, 0, 0⟩ else if op10 o then ⟨0, 0, 0⟩ else mkS o (inA o l)
def opW (o : MOp) (l : List Shape) : Int := if op1 o then 0 else if op2 o l then 0 else if op3 o then 0 else if op4 o then 0 else if op5 o l then 0 else if op6 o l then 0 else if op7 o l then 0 else if op8 o l then 0 else if op9 o then 0 else if op10 o then 0 else mkW o (inA o l)
theorem model_op (o : MOp) (l : List Shape) : Ok Try.prog 100 [.agg (opC o), .ro (l.map shapeC)] (.tup [.agg (shapeC (opS o l)), .int .i64 (opW o l), .int .i64 (opE o l)]) := by
  refine fn_ok Tb_ok (fn := Try.f100) Try.func100 rfl rfl (e := [(0, _), (1, _)]) rfl (by decide) rfl ?_
  refine zs ?_
  refine zR ?_
  refine zbx [.int _ _, .int _ _, .int _ _, .int _ _, .int _ _, .int _ _, .int _ _, .int _ _, .int _ _, .int _ _, .int _ _, .int _ _, _, _, .int _ _, .int _ _, .int _ _, .int _ _, .int _ _, .int _ _, .int _ _, .int _ _] 22 ?_
  refine zal [.int .i64 0, .int .i64 0, .int .i64 0] 3 ?_
  refine zLI ?_
  refine zLI ?_
  refine zn ?_
  refine zs ?_
  refine zR ?_
  refine zLG [.int _ _, .int _ _, .int _ _] ?_
  refine zal [.int .i64 0, .int .i64 0, .int .i64 0] 3 ?_
  refine zst (.agg [.int _ _, .int _ _, .int _ _]) [_, _, _] [[_, _, _]] ?_
  refine zn ?_
  refine zs ?_
  refine zR ?_
  refine zLP ?_
  refine zLI ?_
  refine zLc (model_of o.Kind) ?_
  refine zLT [_, _] ?_
  refine zLG [.bool _, .bool _, .bool _, .bool _, .bool _, .bool _, .bool _, .bool _] ?_
  refine zLB ?_
  refine zal [.bool false, .bool false, .bool false, .bool false, .bool false, .bool false, .bool false, .bool false] 8 ?_
  refine zst (.agg [.bool _, .bool _, .bool _, .bool _, .bool _, .bool _, .bool _, .bool _]) [_, _, _, _, _, _, _, _] [[_, _, _, _, _, _, _, _]] ?_
  refine zLB ?_
  refine zn ?_
  refine zs ?_
  refine W_block ?_
  refine zs ?_
  refine zR ?_
  refine zLB ?_
  refine zLB ?_
  refine zLB ?_
  refine zn ?_
  refine W_cond (b := _) rfl (fun h25 => ?_) (fun h25 => ?_)
  · refine zs ?_
    refine zR ?_
    refine zLG [.int _ _, .int _ _, .int _ _] ?_
    refine zst (.agg [.int _ _, .int _ _, .int _ _]) [_, _, _] [[_, _, _]] ?_
    refine zLI ?_
    refine zLI ?_
    refine zn ?_
    refine zt ?_
    refine ends (l := [.agg [.int _ _, .int _ _, .int _ _], .int _ _, .int _ _]) (q := .tup [.agg [.int _ _, .int _ _, .int _ _], .int _ _, .int _ _]) (.inr rfl) rfl ⟨rfl, trivial, trivial, trivial⟩ rfl rfl ?_
    try replace h25 : op1 o = true := h25
    try replace h25 : op1 o = false := h25
    try replace h29 : op2 o l = true := h29
    try replace h29 : op2 o l = false := h29
    try replace h57 : op3 o = true := h57
    try replace h57 : op3 o = false := h57
    try replace h64 : op4 o = true := h64
    try replace h64 : op4 o = false := h64
    try replace h92 : op5 o l = true := h92
    try replace h92 : op5 o l = false := h92
    try replace h114 : op6 o l = true := h114
    try replace h114 : op6 o l = false := h114
    try replace h120 : op7 o l = true := h120
    try replace h120 : op7 o l = false := h120
    try replace h124 : op8 o l = true := h124
    try replace h124 : op8 o l = false := h124
    try replace h140 : op9 o = true := h140
    try replace h140 : op9 o = false := h140
    try replace h160 : op10 o = true := h160
    try replace h160 : op10 o = false := h160
    simp [opE, opS, opW, *, shapeC] <;> simp [inA]
  · refine zs ?_
    refine zR ?_
    refine zLP ?_
    refine zLI ?_
    refine zLB ?_
    refine zLB ?_
    refine zgLP ?_
    refine zgLI ?_
    refine zgLO ?_
    refine zgLI ?_
    refine zgLB ?_
    refine zpLB ?_
    refine zLB ?_
    refine zgLP ?_
    refine zgLB ?_
    refine zgLB ?_
    refine zgLP ?_
    refine zgLI ?_
    refine zgLB ?_
    refine zgLB ?_
    refine zgLP ?_
    refine zgLI ?_
    refine zgLO ?_
    refine zgLI ?_
    refine zgLB ?_
    refine zqLB ?_
    refine zqLB ?_
    refine zpLB ?_
    refine zLB ?_
    refine zn ?_
    refine W_cond (b := _) rfl (fun h29 => ?_) (fun h29 => ?_)
    · refine zs ?_
      refine zR ?_
      refine zLG [.int _ _, .int _ _, .int _ _] ?_
      refine zst (.agg [.int _ _, .int _ _, .int _ _]) [_, _, _] [[_, _, _]] ?_
      refine zLI ?_
      refine zLI ?_
      refine zn ?_
      refine zt ?_
      refine ends (l := [.agg [.int _ _, .int _ _, .int _ _], .int _ _, .int _ _]) (q := .tup [.agg [.int _ _, .int _ _, .int _ _], .int _ _, .int _ _]) (.inr rfl) rfl ⟨rfl, trivial, trivial, trivial⟩ rfl rfl ?_
      try replace h25 : op1 o = true := h25
      try replace h25 : op1 o = false := h25
      try replace h29 : op2 o l = true := h29
      try replace h29 : op2 o l = false := h29
      try replace h57 : op3 o = true := h57
      try replace h57 : op3 o = false := h57
      try replace h64 : op4 o = true := h64
      try replace h64 : op4 o = false := h64
      try replace h92 : op5 o l = true := h92
      try replace h92 : op5 o l = false := h92
      try replace h114 : op6 o l = true := h114
      try replace h114 : op6 o l = false := h114
      try replace h120 : op7 o l = true := h120
      try replace h120 : op7 o l = false := h120
      try replace h124 : op8 o l = true := h124
      try replace h124 : op8 o l = false := h124
      try replace h140 : op9 o = true := h140
      try replace h140 : op9 o = false := h140
      try replace h160 : op10 o = true := h160
      try replace h160 : op10 o = false := h160
      simp [opE, opS, opW, *, shapeC] <;> simp [inA]
    · refine zs ?_
      refine zR ?_
      refine zLG [.int _ _, .int _ _, .int _ _, .int _ _, .int _ _, .int _ _, .int _ _, .int _ _, .int _ _, .int _ _, .int _ _, .int _ _, _, _, .int _ _, .int _ _, .int _ _, .int _ _, .int _ _, .int _ _, .int _ _, .int _ _] ?_
      refine zLG [.bool _, .bool _, .bool _, .bool _, .bool _, .bool _, .bool _, .bool _] ?_
      refine zLc (model_bare o (ofU o.Kind)) ?_
      refine zLc (model_empty (bareF (ofU o.Kind) o)) ?_
      refine zLB ?_
      refine zLB ?_
      refine zn ?_
      refine W_cond (b := _) rfl (fun h57 => ?_) (fun h57 => ?_)
      · refine zs ?_
        refine zR ?_
        refine zLG [.int _ _, .int _ _, .int _ _] ?_
        refine zst (.agg [.int _ _, .int _ _, .int _ _]) [_, _, _] [[_, _, _]] ?_
        refine zLI ?_
        refine zLI ?_
        refine zn ?_
        refine zt ?_
        refine ends (l := [.agg [.int _ _, .int _ _, .int _ _], .int _ _, .int _ _]) (q := .tup [.agg [.int _ _, .int _ _, .int _ _], .int _ _, .int _ _]) (.inr rfl) rfl ⟨rfl, trivial, trivial, trivial⟩ rfl rfl ?_
        try replace h25 : op1 o = true := h25
        try replace h25 : op1 o = false := h25
        try replace h29 : op2 o l = true := h29
        try replace h29 : op2 o l = false := h29
        try replace h57 : op3 o = true := h57
        try replace h57 : op3 o = false := h57
        try replace h64 : op4 o = true := h64
        try replace h64 : op4 o = false := h64
        try replace h92 : op5 o l = true := h92
        try replace h92 : op5 o l = false := h92
        try replace h114 : op6 o l = true := h114
        try replace h114 : op6 o l = false := h114
        try replace h120 : op7 o l = true := h120
        try replace h120 : op7 o l = false := h120
        try replace h124 : op8 o l = true := h124
        try replace h124 : op8 o l = false := h124
        try replace h140 : op9 o = true := h140
        try replace h140 : op9 o = false := h140
        try replace h160 : op10 o = true := h160
        try replace h160 : op10 o = false := h160
        simp [opE, opS, opW, *, shapeC] <;> simp [inA]
      · refine zs ?_
        refine zR ?_
        refine zLP ?_
        refine zLB ?_
        refine zLB ?_
        refine zgLP ?_
        refine zgLI ?_
        refine zgLB ?_
        refine zgLB ?_
        refine zgLP ?_
        refine zgLI ?_
        refine zgLB ?_
        refine zqLB ?_
        refine zpLB ?_
        refine zLB ?_
        refine zn ?_
        refine W_cond (b := _) rfl (fun h64 => ?_) (fun h64 => ?_)
        · refine zs ?_
          refine zR ?_
          refine zLG [.int _ _, .int _ _, .int _ _] ?_
          refine zst (.agg [.int _ _, .int _ _, .int _ _]) [_, _, _] [[_, _, _]] ?_
          refine zLI ?_
          refine zLI ?_
          refine zn ?_
          refine zt ?_
          refine ends (l := [.agg [.int _ _, .int _ _, .int _ _], .int _ _, .int _ _]) (q := .tup [.agg [.int _ _, .int _ _, .int _ _], .int _ _, .int _ _]) (.inr rfl) rfl ⟨rfl, trivial, trivial, trivial⟩ rfl rfl ?_
          try replace h25 : op1 o = true := h25
          try replace h25 : op1 o = false := h25
          try replace h29 : op2 o l = true := h29
          try replace h29 : op2 o l = false := h29
          try replace h57 : op3 o = true := h57
          try replace h57 : op3 o = false := h57
          try replace h64 : op4 o = true := h64
          try replace h64 : op4 o = false := h64
          try replace h92 : op5 o l = true := h92
          try replace h92 : op5 o l = false := h92
          try replace h114 : op6 o l = true := h114
          try replace h114 : op6 o l = false := h114
          try replace h120 : op7 o l = true := h120
          try replace h120 : op7 o l = false := h120
          try replace h124 : op8 o l = true := h124
          try replace h124 : op8 o l = false := h124
          try replace h140 : op9 o = true := h140
          try replace h140 : op9 o = false := h140
          try replace h160 : op10 o = true := h160
          try replace h160 : op10 o = false := h160
          simp [opE, opS, opW, *, shapeC] <;> simp [inA]
        · refine zk ?_
          refine zs ?_
          refine zR ?_
          refine zLO ?_
          refine zLP ?_
          refine zLI ?_
          (refine L_v Tb_ok (v := _) (ave_index_ro rfl rfl rfl (fun _ => rfl) rfl (by first | omega | assumption | decide | (simp_all; done) | (simp_all; omega)) (by first | omega | assumption | decide | (simp_all; done) | (simp_all; omega)) trivial) rfl ?_)
          refine zLG [.int _ _, .int _ _, .int _ _] ?_
          refine zal [.int .i64 0, .int .i64 0, .int .i64 0] 3 ?_
          refine zst (.agg [.int _ _, .int _ _, .int _ _]) [_, _, _] [[_, _, _]] ?_
          refine zn ?_
          refine zs ?_
          refine zR ?_
          refine zLG [.int _ _, .int _ _, .int _ _, .int _ _, .int _ _, .int _ _, .int _ _, .int _ _, .int _ _, .int _ _, .int _ _, .int _ _, _, _, .int _ _, .int _ _, .int _ _, .int _ _, .int _ _, .int _ _, .int _ _, .int _ _] ?_
          refine zLG [.int _ _, .int _ _, .int _ _] ?_
          refine zLc (model_makes o _) ?_
          refine zLT [_, _, _, _] ?_
          refine zLG [.int _ _, .int _ _, .int _ _] ?_
          refine zLI ?_
          refine zLI ?_
          refine zLI ?_
          refine zal [.int .i64 0, .int .i64 0, .int .i64 0] 3 ?_
          refine zst (.agg [.int _ _, .int _ _, .int _ _]) [_, _, _] [[_, _, _]] ?_
          refine zLI ?_
          refine zLI ?_
          refine zLI ?_
          refine zn ?_
          refine zs ?_
          refine zs ?_
          refine zR ?_
          refine zLI ?_
          refine zLB ?_
          refine zn ?_
          refine W_cond (b := _) rfl (fun h92 => ?_) (fun h92 => ?_)
          · refine zs ?_
            refine zR ?_
            refine zLG [.int _ _, .int _ _, .int _ _] ?_
            refine zLI ?_
            refine zst (.agg [.int _ _, .int _ _, .int _ _]) [_, _, _] [[_, _, _]] ?_
            refine zLI ?_
            refine zLI ?_
            refine zn ?_
            refine zt ?_
            refine ends (l := [.agg [.int _ _, .int _ _, .int _ _], .int _ _, .int _ _]) (q := .tup [.agg [.int _ _, .int _ _, .int _ _], .int _ _, .int _ _]) (.inr rfl) rfl ⟨rfl, trivial, trivial, trivial⟩ rfl rfl ?_
            try replace h25 : op1 o = true := h25
            try replace h25 : op1 o = false := h25
            try replace h29 : op2 o l = true := h29
            try replace h29 : op2 o l = false := h29
            try replace h57 : op3 o = true := h57
            try replace h57 : op3 o = false := h57
            try replace h64 : op4 o = true := h64
            try replace h64 : op4 o = false := h64
            try replace h92 : op5 o l = true := h92
            try replace h92 : op5 o l = false := h92
            try replace h114 : op6 o l = true := h114
            try replace h114 : op6 o l = false := h114
            try replace h120 : op7 o l = true := h120
            try replace h120 : op7 o l = false := h120
            try replace h124 : op8 o l = true := h124
            try replace h124 : op8 o l = false := h124
            try replace h140 : op9 o = true := h140
            try replace h140 : op9 o = false := h140
            try replace h160 : op10 o = true := h160
            try replace h160 : op10 o = false := h160
            simp [opE, opS, opW, *, shapeC] <;> simp [inA]
          · refine zk ?_
            refine zs ?_
            refine zs ?_
            refine zR ?_
            refine zLG [.int _ _, .int _ _, .int _ _] ?_
            refine zLc (shape_Elems _) ?_
            refine zLT [_, _] ?_
            refine zLI ?_
            refine zLI ?_
            refine zLI ?_
            refine zLI ?_
            refine zn ?_
            refine zs ?_
            refine W_draw 15 Tb_mixed rfl (by decide) (by kernel_rfl) (by kernel_rfl) ?_
            refine zEI ?_
            refine zEB ?_
            refine zEB ?_
            refine zgEP ?_
            refine zgEB ?_
            refine zgEB ?_
            refine zgEO ?_
            refine zgEP ?_
            refine zgEI ?_
            (refine E_g Tb_ok (v := _) rfl rfl ((fun hg => (ave_index_ro rfl rfl rfl (fun _ => rfl) rfl (by first | omega | assumption | decide | (simp_all; done) | (simp_all; omega)) (by first | omega | assumption | decide | (simp_all; done) | (simp_all; omega)) ⟨⟨(by first | exact hg | (simp_all; done) | (simp at hg ⊢; simp [hg])), True.intro⟩, ⟨⟨(by first | exact hg | (simp_all; done) | (simp at hg ⊢; simp [hg])), True.intro⟩, True.intro⟩⟩))) rfl rfl ?_)
            refine zgEG [.int _ _, .int _ _, .int _ _] ?_
            refine zgEG [.int _ _, .int _ _, .int _ _] ?_
            refine zgEB ?_
            refine zqEB ?_
            refine zpEB ?_
            refine LexE_nil ?_
            refine zn ?_
            refine W_cond (b := _) rfl (fun h114 => ?_) (fun h114 => ?_)
            · refine zs ?_
              refine zR ?_
              refine zLG [.int _ _, .int _ _, .int _ _] ?_
              refine zst (.agg [.int _ _, .int _ _, .int _ _]) [_, _, _] [[_, _, _]] ?_
              refine zLI ?_
              refine zLI ?_
              refine zn ?_
              refine zt ?_
              refine ends (l := [.agg [.int _ _, .int _ _, .int _ _], .int _ _, .int _ _]) (q := .tup [.agg [.int _ _, .int _ _, .int _ _], .int _ _, .int _ _]) (.inr rfl) rfl ⟨rfl, trivial, trivial, trivial⟩ rfl rfl ?_
              try replace h25 : op1 o = true := h25
              try replace h25 : op1 o = false := h25
              try replace h29 : op2 o l = true := h29
              try replace h29 : op2 o l = false := h29
              try replace h57 : op3 o = true := h57
              try replace h57 : op3 o = false := h57
              try replace h64 : op4 o = true := h64
              try replace h64 : op4 o = false := h64
              try replace h92 : op5 o l = true := h92
              try replace h92 : op5 o l = false := h92
              try replace h114 : op6 o l = true := h114
              try replace h114 : op6 o l = false := h114
              try replace h120 : op7 o l = true := h120
              try replace h120 : op7 o l = false := h120
              try replace h124 : op8 o l = true := h124
              try replace h124 : op8 o l = false := h124
              try replace h140 : op9 o = true := h140
              try replace h140 : op9 o = false := h140
              try replace h160 : op10 o = true := h160
              try replace h160 : op10 o = false := h160
              simp [opE, opS, opW, *, shapeC] <;> simp [inA]
            · refine zk ?_
              refine zs ?_
              refine zR ?_
              refine zLI ?_
              refine zn ?_
              refine zs ?_
              refine zs ?_
              refine zR ?_
              refine zLP ?_
              refine zLB ?_
              refine zn ?_
              refine W_ift (b := _) (M := ⟨[(1, .ro (l.map shapeC)), (2, .ptr 0 0 0), (4, .ptr 1 0 0), (7, .ptr 2 0 0), (8, .ptr 3 0 0), (11, .ptr 5 0 0), (12, .int .i64 (mkL o (l.getD o.A.toNat default))), (13, .int .i64 (mkW o (l.getD o.A.toNat default))), (17, .int .i64 (bif (ofU o.Kind).weights then (mkS o (l.getD o.A.toNat default)).C else 0))], [(0, some ⟨44, 22, 0, [opC o]⟩), (1, some ⟨23, 3, 0, [shapeC ⟨0, 0, 0⟩]⟩), (2, some ⟨23, 3, 0, [shapeC ⟨0, 0, 0⟩]⟩), (3, some ⟨181, 8, 0, [usesC (ofU o.Kind)]⟩), (5, some ⟨23, 3, 0, [shapeC (mkS o (l.getD o.A.toNat default))]⟩)], [], 6⟩) (p := True) rfl (fun h117 => ?_) (fun h117 => ?_) (fun m117 => ?_)
              · refine zR ?_
                refine zLP ?_
                refine zLI ?_
                refine zLI ?_
                refine zn ?_
                exact ⟨trivial, le_fit ⟨rfl, rfl, rfl, rfl, rfl, rfl, rfl, rfl, mi1 h117 rfl, trivial⟩ ⟨.inr rfl, .inr rfl, .inr rfl, .inr rfl, .inr rfl, trivial⟩ trivial rfl rfl rfl rfl rfl⟩
              · refine zk ?_
                exact ⟨trivial, le_fit ⟨rfl, rfl, rfl, rfl, rfl, rfl, rfl, rfl, mi2 h117 rfl, trivial⟩ ⟨.inr rfl, .inr rfl, .inr rfl, .inr rfl, .inr rfl, trivial⟩ trivial rfl rfl rfl rfl rfl⟩
              refine zs ?_
              refine W_block ?_
              refine zs ?_
              refine zR ?_
              refine zLI ?_
              refine zLB ?_
              refine zLB ?_
              refine zn ?_
              refine W_cond (b := _) rfl (fun h120 => ?_) (fun h120 => ?_)
              · refine zs ?_
                refine zR ?_
                refine zLG [.int _ _, .int _ _, .int _ _] ?_
                refine zst (.agg [.int _ _, .int _ _, .int _ _]) [_, _, _] [[_, _, _]] ?_
                refine zLI ?_
                refine zLI ?_
                refine zn ?_
                refine zt ?_
                refine ends (l := [.agg [.int _ _, .int _ _, .int _ _], .int _ _, .int _ _]) (q := .tup [.agg [.int _ _, .int _ _, .int _ _], .int _ _, .int _ _]) (.inr rfl) rfl ⟨rfl, trivial, trivial, trivial⟩ rfl rfl ?_
                try replace h25 : op1 o = true := h25
                try replace h25 : op1 o = false := h25
                try replace h29 : op2 o l = true := h29
                try replace h29 : op2 o l = false := h29
                try replace h57 : op3 o = true := h57
                try replace h57 : op3 o = false := h57
                try replace h64 : op4 o = true := h64
                try replace h64 : op4 o = false := h64
                try replace h92 : op5 o l = true := h92
                try replace h92 : op5 o l = false := h92
                try replace h114 : op6 o l = true := h114
                try replace h114 : op6 o l = false := h114
                try replace h120 : op7 o l = true := h120
                try replace h120 : op7 o l = false := h120
                try replace h124 : op8 o l = true := h124
                try replace h124 : op8 o l = false := h124
                try replace h140 : op9 o = true := h140
                try replace h140 : op9 o = false := h140
                try replace h160 : op10 o = true := h160
                try replace h160 : op10 o = false := h160
                simp [opE, opS, opW, *, shapeC] <;> simp [inA]
              · refine zs ?_
                refine zR ?_
                refine zLP ?_
                refine zLO ?_
                refine zLI ?_
                refine zLI ?_
                refine zLI ?_
                refine zLI ?_
                refine zLB ?_
                refine zLB ?_
                refine zgLP ?_
                refine zgLO ?_
                refine zgLI ?_
                refine zgLI ?_
                refine zgLB ?_
                refine zpLB ?_
                refine zLB ?_
                refine zn ?_
                refine W_cond (b := _) rfl (fun h124 => ?_) (fun h124 => ?_)
                · refine zs ?_
                  refine zR ?_
                  refine zLG [.int _ _, .int _ _, .int _ _] ?_
                  refine zst (.agg [.int _ _, .int _ _, .int _ _]) [_, _, _] [[_, _, _]] ?_
                  refine zLI ?_
                  refine zLI ?_
                  refine zn ?_
                  refine zt ?_
                  refine ends (l := [.agg [.int _ _, .int _ _, .int _ _], .int _ _, .int _ _]) (q := .tup [.agg [.int _ _, .int _ _, .int _ _], .int _ _, .int _ _]) (.inr rfl) rfl ⟨rfl, trivial, trivial, trivial⟩ rfl rfl ?_
                  try replace h25 : op1 o = true := h25
                  try replace h25 : op1 o = false := h25
                  try replace h29 : op2 o l = true := h29
                  try replace h29 : op2 o l = false := h29
                  try replace h57 : op3 o = true := h57
                  try replace h57 : op3 o = false := h57
                  try replace h64 : op4 o = true := h64
                  try replace h64 : op4 o = false := h64
                  try replace h92 : op5 o l = true := h92
                  try replace h92 : op5 o l = false := h92
                  try replace h114 : op6 o l = true := h114
                  try replace h114 : op6 o l = false := h114
                  try replace h120 : op7 o l = true := h120
                  try replace h120 : op7 o l = false := h120
                  try replace h124 : op8 o l = true := h124
                  try replace h124 : op8 o l = false := h124
                  try replace h140 : op9 o = true := h140
                  try replace h140 : op9 o = false := h140
                  try replace h160 : op10 o = true := h160
                  try replace h160 : op10 o = false := h160
                  simp [opE, opS, opW, *, shapeC] <;> simp [inA]
                · refine zs ?_
                  refine zR ?_
                  refine zLP ?_
                  refine zLB ?_
                  refine zLB ?_
                  refine zgLP ?_
                  refine zgLG [.int _ _, .int _ _] ?_
                  refine L_callg (hr := fun hg => fixq_Valid _) rfl rfl rfl rfl rfl (fun hg => ⟨⟨(by exact hg), True.intro⟩, True.intro⟩) rfl rfl ?_
                  refine zgLB ?_
                  refine zpLB ?_
                  refine zLB ?_
                  refine zgLP ?_
                  refine zgLB ?_
                  refine zgLB ?_
                  refine zgLP ?_
                  refine zgLG [.int _ _, .int _ _] ?_
                  refine L_callg (hr := fun hg => fixq_Valid _) rfl rfl rfl rfl rfl (fun hg => ⟨⟨(by exact hg), True.intro⟩, True.intro⟩) rfl rfl ?_
                  refine zgLB ?_
                  refine zqLB ?_
                  refine zpLB ?_
                  refine zLB ?_
                  refine zn ?_
                  refine W_cond (b := _) rfl (fun h140 => ?_) (fun h140 => ?_)
                  · refine zs ?_
                    refine zR ?_
                    refine zLG [.int _ _, .int _ _, .int _ _] ?_
                    refine zst (.agg [.int _ _, .int _ _, .int _ _]) [_, _, _] [[_, _, _]] ?_
                    refine zLI ?_
                    refine zLI ?_
                    refine zn ?_
                    refine zt ?_
                    refine ends (l := [.agg [.int _ _, .int _ _, .int _ _], .int _ _, .int _ _]) (q := .tup [.agg [.int _ _, .int _ _, .int _ _], .int _ _, .int _ _]) (.inr rfl) rfl ⟨rfl, trivial, trivial, trivial⟩ rfl rfl ?_
                    try replace h25 : op1 o = true := h25
                    try replace h25 : op1 o = false := h25
                    try replace h29 : op2 o l = true := h29
                    try replace h29 : op2 o l = false := h29
                    try replace h57 : op3 o = true := h57
                    try replace h57 : op3 o = false := h57
                    try replace h64 : op4 o = true := h64
                    try replace h64 : op4 o = false := h64
                    try replace h92 : op5 o l = true := h92
                    try replace h92 : op5 o l = false := h92
                    try replace h114 : op6 o l = true := h114
                    try replace h114 : op6 o l = false := h114
                    try replace h120 : op7 o l = true := h120
                    try replace h120 : op7 o l = false := h120
                    try replace h124 : op8 o l = true := h124
                    try replace h124 : op8 o l = false := h124
                    try replace h140 : op9 o = true := h140
                    try replace h140 : op9 o = false := h140
                    try replace h160 : op10 o = true := h160
                    try replace h160 : op10 o = false := h160
                    simp [opE, opS, opW, *, shapeC] <;> simp [inA]
                  · refine zs ?_
                    refine zR ?_
                    refine zLP ?_
                    refine zLI ?_
                    refine zLP ?_
                    refine zLI ?_
                    refine zLP ?_
                    refine zLI ?_
                    refine zLP ?_
                    refine zLI ?_
                    refine L_build Tb_ok (t := 116) (len := 4) (el := 3) (sz := 1) (es := [[_], [_], [_], [_]]) (z := [.int .i64 0]) rfl rfl rfl rfl rfl (by decide) trivial rfl rfl rfl rfl rfl ?_
                    refine L_freeze (t := 169) (l := _) rfl rfl rfl rfl rfl rfl rfl ?_
                    refine zLc (model_byte8 [o.Lo, o.Hi, o.Zero, o.Pad] (by simp)) ?_
                    refine zLB ?_
                    refine zLB ?_
                    refine zgLP ?_
                    refine zgLI ?_
                    refine zgLP ?_
                    refine zgLI ?_
                    refine zgLB ?_
                    refine zpLB ?_
                    refine zLB ?_
                    refine zn ?_
                    refine W_cond (b := _) rfl (fun h160 => ?_) (fun h160 => ?_)
                    · refine zs ?_
                      refine zR ?_
                      refine zLG [.int _ _, .int _ _, .int _ _] ?_
                      refine zst (.agg [.int _ _, .int _ _, .int _ _]) [_, _, _] [[_, _, _]] ?_
                      refine zLI ?_
                      refine zLI ?_
                      refine zn ?_
                      refine zt ?_
                      refine ends (l := [.agg [.int _ _, .int _ _, .int _ _], .int _ _, .int _ _]) (q := .tup [.agg [.int _ _, .int _ _, .int _ _], .int _ _, .int _ _]) (.inr rfl) rfl ⟨rfl, trivial, trivial, trivial⟩ rfl rfl ?_
                      try replace h25 : op1 o = true := h25
                      try replace h25 : op1 o = false := h25
                      try replace h29 : op2 o l = true := h29
                      try replace h29 : op2 o l = false := h29
                      try replace h57 : op3 o = true := h57
                      try replace h57 : op3 o = false := h57
                      try replace h64 : op4 o = true := h64
                      try replace h64 : op4 o = false := h64
                      try replace h92 : op5 o l = true := h92
                      try replace h92 : op5 o l = false := h92
                      try replace h114 : op6 o l = true := h114
                      try replace h114 : op6 o l = false := h114
                      try replace h120 : op7 o l = true := h120
                      try replace h120 : op7 o l = false := h120
                      try replace h124 : op8 o l = true := h124
                      try replace h124 : op8 o l = false := h124
                      try replace h140 : op9 o = true := h140
                      try replace h140 : op9 o = false := h140
                      try replace h160 : op10 o = true := h160
                      try replace h160 : op10 o = false := h160
                      simp [opE, opS, opW, *, shapeC] <;> simp [inA]
                    · refine zk ?_
                      refine zs ?_
                      refine zR ?_
                      refine zLG [.int _ _, .int _ _, .int _ _] ?_
                      refine zLI ?_
                      refine zst (.agg [.int _ _, .int _ _, .int _ _]) [_, _, _] [[_, _, _]] ?_
                      refine zLI ?_
                      refine zLI ?_
                      refine zn ?_
                      refine zt ?_
                      refine ends (l := [.agg [.int _ _, .int _ _, .int _ _], .int _ _, .int _ _]) (q := .tup [.agg [.int _ _, .int _ _, .int _ _], .int _ _, .int _ _]) (.inr rfl) rfl ⟨rfl, trivial, trivial, trivial⟩ rfl rfl ?_
                      try replace h25 : op1 o = true := h25
                      try replace h25 : op1 o = false := h25
                      try replace h29 : op2 o l = true := h29
                      try replace h29 : op2 o l = false := h29
                      try replace h57 : op3 o = true := h57
                      try replace h57 : op3 o = false := h57
                      try replace h64 : op4 o = true := h64
                      try replace h64 : op4 o = false := h64
                      try replace h92 : op5 o l = true := h92
                      try replace h92 : op5 o l = false := h92
                      try replace h114 : op6 o l = true := h114
                      try replace h114 : op6 o l = false := h114
                      try replace h120 : op7 o l = true := h120
                      try replace h120 : op7 o l = false := h120
                      try replace h124 : op8 o l = true := h124
                      try replace h124 : op8 o l = false := h124
                      try replace h140 : op9 o = true := h140
                      try replace h140 : op9 o = false := h140
                      try replace h160 : op10 o = true := h160
                      try replace h160 : op10 o = false := h160
                      simp [opE, opS, opW, *, shapeC] <;> simp [inA]
end Go.AM
end
section
open Go Go.AM Go.Proofs
set_option maxRecDepth 10000
set_option linter.unusedVariables false
set_option linter.unusedSimpArgs false
namespace Go.AM
def wbig (o : MOp) (l : List Shape) (s : Int) : Bool := bif opE o l == 0 then decide (w64 (s + opW o l) > 131072) else false
def werr (o : MOp) (l : List Shape) (s : Int) : Int := bif wbig o l s then 86 else opE o l
/-- the ops, one behind another -/
def wgo : List MOp → Nat → List Shape → Int → List Shape × Int × Fault
  | [], _, l, s => (l, s, ⟨0, 0, 0⟩)
  | o :: r, k, l, s => bif werr o l s != 0 then ([], 0, ⟨werr o l s, w64 ((k : Int) + 1), 0⟩) else wgo r (k + 1) (l ++ [opS o l]) (w64 (s + opW o l))
def wh1 (m : Model) : Bool := shapeE m.In != 0
def wh2 (m : Model) : Bool := bif !bytesB [m.Lo, m.Hi] then true else decide (m.Lo > m.Hi)
def wh3 (m : Model) : Bool := decide (((m.Ops.map opC).length : Int) > 64)
def wh4 (m : Model) : Bool := bif decide (m.Out < 0) then true else decide (m.Out > ((m.Ops.map opC).length : Int))
/-- shapes, work and fault -/
def wholeF (m : Model) : List Shape × Int × Fault :=
  if wh1 m then ([], 0, ⟨shapeE m.In, 0, 0⟩) else if wh2 m then ([], 0, ⟨85, 0, 0⟩) else if wh3 m then ([], 0, ⟨80, 0, 0⟩) else if wh4 m then ([], 0, ⟨3, 0, 0⟩) else wgo m.Ops 0 [m.In] 0
structure WI (m : Model) where
  (k : Nat) (l : List Shape) (s : Int)
  (hk : k ≤ m.Ops.length)
  (hl : l.length = k + 1)
  (hm : m.Ops.length ≤ 64)
  (h : wholeF m = wgo (m.Ops.drop k) k l s)
theorem wgo_step {m : Model} {k : Nat} {l : List Shape} {s : Int} (hk : k < m.Ops.length) : wgo (m.Ops.drop k) k l s =
    bif werr (m.Ops.getD k default) l s != 0 then ([], 0, ⟨werr (m.Ops.getD k default) l s, w64 ((k : Int) + 1), 0⟩) else wgo (m.Ops.drop (k + 1)) (k + 1) (l ++ [opS (m.Ops.getD k default) l]) (w64 (s + opW (m.Ops.getD k default) l)) := by
  have e : m.Ops.drop k = m.Ops.getD k default :: m.Ops.drop (k + 1) := by rw [List.drop_eq_getElem_cons hk]; simp [hk]
  rw [e, wgo]
theorem werr_big {o : MOp} {l : List Shape} {s : Int} (h : wbig o l s = true) : werr o l s = 86 := by rw [werr, h]; rfl
theorem werr_ok {o : MOp} {l : List Shape} {s : Int} (h : wbig o l s = false) : werr o l s = opE o l := by rw [werr, h]; rfl
theorem wgo_bad {m : Model} {k : Nat} {l : List Shape} {s e : Int} (hk : k < m.Ops.length) (h : werr (m.Ops.getD k default) l s = e) (hn : (e != 0) = true) : wgo (m.Ops.drop k) k l s = ([], 0, ⟨e, w64 ((k : Int) + 1), 0⟩) := by rw [wgo_step hk, h, hn]; rfl
theorem wgo_good {m : Model} {k : Nat} {l : List Shape} {s e : Int} (hk : k < m.Ops.length) (h : werr (m.Ops.getD k default) l s = e) (hn : (e != 0) = false) : wgo (m.Ops.drop k) k l s = wgo (m.Ops.drop (k + 1)) (k + 1) (l ++ [opS (m.Ops.getD k default) l]) (w64 (s + opW (m.Ops.getD k default) l)) := by rw [wgo_step hk, h, hn]; rfl
theorem model_whole (m : Model) : Ok Try.prog 89 [.agg (modelC m)] (.tup [.ro ((wholeF m).1.map shapeC), .int .i64 (wholeF m).2.1, .agg (faultC (wholeF m).2.2)]) := by
  refine fn_ok Tb_ok (fn := Try.f89) Try.func89 rfl rfl (e := [(0, _)]) rfl (by decide) rfl ?_
  refine zs ?_
  refine zR ?_
  refine zbx [.int _ _, .int _ _, .int _ _, .int _ _, .int _ _, _, .int _ _] 7 ?_
  refine zLN ?_
  refine zLI ?_
  refine zal [.int .i64 0, .int .i64 0, .int .i64 0] 3 ?_
  refine zn ?_
  refine zs ?_
  refine zR ?_
  refine zLP ?_
  refine zLG [.int _ _, .int _ _, .int _ _] ?_
  refine zLc (shape_Elems m.In) ?_
  refine zLT [_, _] ?_
  refine zLI ?_
  refine zLI ?_
  refine zLI ?_
  refine zLI ?_
  refine zn ?_
  refine zs ?_
  refine W_block ?_
  refine zs ?_
  refine zR ?_
  refine zLI ?_
  refine zLB ?_
  refine zLB ?_
  refine zn ?_
  refine W_cond (b := _) rfl (fun h20 => ?_) (fun h20 => ?_)
  · refine zs ?_
    refine zR ?_
    refine zLI ?_
    refine zLG [.int _ _, .int _ _, .int _ _] ?_
    refine zLN ?_
    refine zLI ?_
    refine zst (.agg [.int _ _, .int _ _, .int _ _]) [_, _, _] [[_, _, _]] ?_
    refine zn ?_
    refine zt ?_
    (refine ends (l := [.nils, .int _ _, .agg [.int _ _, .int _ _, .int _ _]]) (q := .tup [.ro _, .int _ _, .agg [.int _ _, .int _ _, .int _ _]]) (.inr rfl) rfl ⟨trivial, trivial, rfl, trivial⟩ rfl rfl ?_)
    try replace h20 : wh1 m = true := h20
    try replace h20 : wh1 m = false := h20
    try replace h25 : wh2 m = true := h25
    try replace h25 : wh2 m = false := h25
    try replace h41 : wh3 m = true := h41
    try replace h41 : wh3 m = false := h41
    try replace h47 : wh4 m = true := h47
    try replace h47 : wh4 m = false := h47
    first
    | (simp [wholeF, *, faultC]; done)
    | (simp only [List.length_map] at h67
       rcases Nat.lt_or_ge k m.Ops.length with hlt | hge
       · first
         | (rw [hw, wgo_bad hlt (werr_big (show wbig (m.Ops.getD k default) l s = true from h86)) (show ((86 : Int) != 0) = true from h88)]; rfl)
         | (rw [hw, wgo_bad hlt (werr_ok (show wbig (m.Ops.getD k default) l s = false from h86)) (show (opE (m.Ops.getD k default) l != 0) = true from h88_1)]; rfl)
         | (simp at h67; omega)
       · have he : k = m.Ops.length := Nat.le_antisymm hk hge
         subst he
         first | (rw [hw, List.drop_length, wgo]; rfl) | (simp at h67; done))
  · refine zs ?_
    refine zR ?_
    refine zLP ?_
    refine zLI ?_
    refine zLP ?_
    refine zLI ?_
    refine L_build Tb_ok (t := 116) (len := 2) (el := 3) (sz := 1) (es := [[_], [_]]) (z := [.int .i64 0]) rfl rfl rfl rfl rfl (by decide) trivial rfl rfl rfl rfl rfl ?_
    refine L_freeze (t := 30) (l := _) rfl rfl rfl rfl rfl rfl rfl ?_
    refine zLc (model_byte8 [m.Lo, m.Hi] (by simp)) ?_
    refine zLB ?_
    refine zLB ?_
    refine zgLP ?_
    refine zgLI ?_
    refine zgLP ?_
    refine zgLI ?_
    refine zgLB ?_
    refine zpLB ?_
    refine zLB ?_
    refine zn ?_
    refine W_cond (b := _) rfl (fun h25 => ?_) (fun h25 => ?_)
    · refine zs ?_
      refine zR ?_
      refine zLG [.int _ _, .int _ _, .int _ _] ?_
      refine zLN ?_
      refine zLI ?_
      refine zst (.agg [.int _ _, .int _ _, .int _ _]) [_, _, _] [[_, _, _]] ?_
      refine zn ?_
      refine zt ?_
      (refine ends (l := [.nils, .int _ _, .agg [.int _ _, .int _ _, .int _ _]]) (q := .tup [.ro _, .int _ _, .agg [.int _ _, .int _ _, .int _ _]]) (.inr rfl) rfl ⟨trivial, trivial, rfl, trivial⟩ rfl rfl ?_)
      try replace h20 : wh1 m = true := h20
      try replace h20 : wh1 m = false := h20
      try replace h25 : wh2 m = true := h25
      try replace h25 : wh2 m = false := h25
      try replace h41 : wh3 m = true := h41
      try replace h41 : wh3 m = false := h41
      try replace h47 : wh4 m = true := h47
      try replace h47 : wh4 m = false := h47
      first
      | (simp [wholeF, *, faultC]; done)
      | (simp only [List.length_map] at h67
         rcases Nat.lt_or_ge k m.Ops.length with hlt | hge
         · first
           | (rw [hw, wgo_bad hlt (werr_big (show wbig (m.Ops.getD k default) l s = true from h86)) (show ((86 : Int) != 0) = true from h88)]; rfl)
           | (rw [hw, wgo_bad hlt (werr_ok (show wbig (m.Ops.getD k default) l s = false from h86)) (show (opE (m.Ops.getD k default) l != 0) = true from h88_1)]; rfl)
           | (simp at h67; omega)
         · have he : k = m.Ops.length := Nat.le_antisymm hk hge
           subst he
           first | (rw [hw, List.drop_length, wgo]; rfl) | (simp at h67; done))
    · refine zs ?_
      refine zR ?_
      refine zLP ?_
      refine zLO ?_
      refine zLI ?_
      refine zLB ?_
      refine zLB ?_
      refine zn ?_
      refine W_cond (b := _) rfl (fun h41 => ?_) (fun h41 => ?_)
      · refine zs ?_
        refine zR ?_
        refine zLG [.int _ _, .int _ _, .int _ _] ?_
        refine zLN ?_
        refine zLI ?_
        refine zst (.agg [.int _ _, .int _ _, .int _ _]) [_, _, _] [[_, _, _]] ?_
        refine zn ?_
        refine zt ?_
        (refine ends (l := [.nils, .int _ _, .agg [.int _ _, .int _ _, .int _ _]]) (q := .tup [.ro _, .int _ _, .agg [.int _ _, .int _ _, .int _ _]]) (.inr rfl) rfl ⟨trivial, trivial, rfl, trivial⟩ rfl rfl ?_)
        try replace h20 : wh1 m = true := h20
        try replace h20 : wh1 m = false := h20
        try replace h25 : wh2 m = true := h25
        try replace h25 : wh2 m = false := h25
        try replace h41 : wh3 m = true := h41
        try replace h41 : wh3 m = false := h41
        try replace h47 : wh4 m = true := h47
        try replace h47 : wh4 m = false := h47
        first
        | (simp [wholeF, *, faultC]; done)
        | (simp only [List.length_map] at h67
           rcases Nat.lt_or_ge k m.Ops.length with hlt | hge
           · first
             | (rw [hw, wgo_bad hlt (werr_big (show wbig (m.Ops.getD k default) l s = true from h86)) (show ((86 : Int) != 0) = true from h88)]; rfl)
             | (rw [hw, wgo_bad hlt (werr_ok (show wbig (m.Ops.getD k default) l s = false from h86)) (show (opE (m.Ops.getD k default) l != 0) = true from h88_1)]; rfl)
             | (simp at h67; omega)
           · have he : k = m.Ops.length := Nat.le_antisymm hk hge
             subst he
             first | (rw [hw, List.drop_length, wgo]; rfl) | (simp at h67; done))
      · refine zs ?_
        refine zR ?_
        refine zLP ?_
        refine zLI ?_
        refine zLB ?_
        refine zLB ?_
        refine zgLP ?_
        refine zgLI ?_
        refine zgLP ?_
        refine zgLO ?_
        refine zgLI ?_
        refine zgLB ?_
        refine zpLB ?_
        refine zLB ?_
        refine zn ?_
        refine W_cond (b := _) rfl (fun h47 => ?_) (fun h47 => ?_)
        · refine zs ?_
          refine zR ?_
          refine zLG [.int _ _, .int _ _, .int _ _] ?_
          refine zLN ?_
          refine zLI ?_
          refine zst (.agg [.int _ _, .int _ _, .int _ _]) [_, _, _] [[_, _, _]] ?_
          refine zn ?_
          refine zt ?_
          (refine ends (l := [.nils, .int _ _, .agg [.int _ _, .int _ _, .int _ _]]) (q := .tup [.ro _, .int _ _, .agg [.int _ _, .int _ _, .int _ _]]) (.inr rfl) rfl ⟨trivial, trivial, rfl, trivial⟩ rfl rfl ?_)
          try replace h20 : wh1 m = true := h20
          try replace h20 : wh1 m = false := h20
          try replace h25 : wh2 m = true := h25
          try replace h25 : wh2 m = false := h25
          try replace h41 : wh3 m = true := h41
          try replace h41 : wh3 m = false := h41
          try replace h47 : wh4 m = true := h47
          try replace h47 : wh4 m = false := h47
          first
          | (simp [wholeF, *, faultC]; done)
          | (simp only [List.length_map] at h67
             rcases Nat.lt_or_ge k m.Ops.length with hlt | hge
             · first
               | (rw [hw, wgo_bad hlt (werr_big (show wbig (m.Ops.getD k default) l s = true from h86)) (show ((86 : Int) != 0) = true from h88)]; rfl)
               | (rw [hw, wgo_bad hlt (werr_ok (show wbig (m.Ops.getD k default) l s = false from h86)) (show (opE (m.Ops.getD k default) l != 0) = true from h88_1)]; rfl)
               | (simp at h67; omega)
             · have he : k = m.Ops.length := Nat.le_antisymm hk hge
               subst he
               first | (rw [hw, List.drop_length, wgo]; rfl) | (simp at h67; done))
        · refine zk ?_
          refine zs ?_
          refine zR ?_
          refine zLP ?_
          refine zLG [.int _ _, .int _ _, .int _ _] ?_
          refine L_build Tb_ok (t := 131) (len := 1) (el := 23) (sz := 3) (es := [[_, _, _]]) (z := [.int .i64 0, .int .i64 0, .int .i64 0]) rfl rfl rfl rfl rfl (by decide) trivial rfl rfl rfl rfl rfl ?_
          refine zLW ?_
          refine zLI ?_
          refine zn ?_
          refine zs ?_
          refine zs ?_
          refine zR ?_
          refine zLP ?_
          refine zLO ?_
          refine zLI ?_
          refine zLI ?_
          refine zn ?_
          refine W_block ?_
          refine W_tok (t := 7) (id := 4) (ty := 23) (sz := 3) (fz := 0) (es := [shapeC m.In]) (l := [shapeC m.In]) rfl rfl rfl rfl rfl rfl rfl ?_
          refine W_inv (ι := WI m) (fun i => ⟨[(1, .ptr 0 0 0), (4, .ptr 1 0 0), (7, .app 5 (i.l.map shapeC)), (8, .int .i64 i.s), (64, .ro (m.Ops.map opC)), (65, .int .i64 ((m.Ops.map opC).length : Int)), (66, .int .i64 (i.k : Int))], [(0, some ⟨26, 7, 0, [modelC m]⟩), (1, some ⟨133, 3, 0, [[.int .i64 0, .int .i64 0, .int .i64 0]]⟩)], [(5, some (23, 3, i.l.length))], 6⟩) (fun i => m.Ops.length - i.k) ⟨0, [m.In], 0, Nat.zero_le _, rfl, by simp at h41; omega, ?_⟩ (le_fit ⟨rfl, rfl, rfl, rfl, rfl, rfl, rfl, trivial⟩ ⟨.inr rfl, .inr rfl, trivial⟩ ⟨.inr rfl, trivial⟩ rfl rfl rfl rfl rfl) ?_
          · replace h20 : wh1 m = false := h20
            replace h25 : wh2 m = false := h25
            replace h41 : wh3 m = false := h41
            replace h47 : wh4 m = false := h47
            simp [wholeF, *]
          rintro ⟨k, l, s, hk, hl, hm, hw⟩
          refine zs ?_
          refine zR ?_
          refine zLB ?_
          refine zn ?_
          refine zs ?_
          refine W_cond (b := _) rfl (fun h67 => ?_) (fun h67 => ?_)
          · refine zk ?_
            refine zs ?_
            refine W_block ?_
            refine zs ?_
            refine zR ?_
            refine zLI ?_
            (refine L_v Tb_ok (v := _) (ave_index_ro rfl rfl rfl (fun _ => rfl) rfl (by first | omega | assumption | decide | (simp_all; done) | (simp_all; omega)) (by first | omega | assumption | decide | (simp_all; done) | (simp_all; omega)) trivial) rfl ?_)
            refine zLG [.int _ _, .int _ _, .int _ _, .int _ _, .int _ _, .int _ _, .int _ _, .int _ _, .int _ _, .int _ _, .int _ _, .int _ _, _, _, .int _ _, .int _ _, .int _ _, .int _ _, .int _ _, .int _ _, .int _ _, .int _ _] ?_
            refine zal [.int .i64 0, .int .i64 0, .int .i64 0, .int .i64 0, .int .i64 0, .int .i64 0, .int .i64 0, .int .i64 0, .int .i64 0, .int .i64 0, .int .i64 0, .int .i64 0, .nils, .nils, .int .i64 0, .int .i64 0, .int .i64 0, .int .i64 0, .int .i64 0, .int .i64 0, .int .i64 0, .int .i64 0] 22 ?_
            refine zLI ?_
            refine zst (.agg [.int _ _, .int _ _, .int _ _, .int _ _, .int _ _, .int _ _, .int _ _, .int _ _, .int _ _, .int _ _, .int _ _, .int _ _, _, _, .int _ _, .int _ _, .int _ _, .int _ _, .int _ _, .int _ _, .int _ _, .int _ _]) [_, _, _, _, _, _, _, _, _, _, _, _, _, _, _, _, _, _, _, _, _, _] [[_, _, _, _, _, _, _, _, _, _, _, _, _, _, _, _, _, _, _, _, _, _]] ?_
            refine zn ?_
            refine zs ?_
            refine zR ?_
            refine zLG [.int _ _, .int _ _, .int _ _, .int _ _, .int _ _, .int _ _, .int _ _, .int _ _, .int _ _, .int _ _, .int _ _, .int _ _, _, _, .int _ _, .int _ _, .int _ _, .int _ _, .int _ _, .int _ _, .int _ _, .int _ _] ?_
            refine zLA ?_
            refine zLc (model_op (m.Ops.getD k default) l) ?_
            refine zLT [_, _, _] ?_
            refine zLG [.int _ _, .int _ _, .int _ _] ?_
            refine zLI ?_
            refine zLI ?_
            refine zal [.int .i64 0, .int .i64 0, .int .i64 0] 3 ?_
            refine zst (.agg [.int _ _, .int _ _, .int _ _]) [_, _, _] [[_, _, _]] ?_
            refine zLI ?_
            refine zLI ?_
            refine zn ?_
            refine zs ?_
            refine zR ?_
            refine zLI ?_
            refine zLI ?_
            refine zLI ?_
            refine zLI ?_
            refine zn ?_
            refine zs ?_
            refine zs ?_
            refine zR ?_
            refine zLI ?_
            refine zLB ?_
            refine zLB ?_
            refine zgLI ?_
            refine zgLB ?_
            refine zpLB ?_
            refine zn ?_
            refine W_cond (b := _) rfl (fun h86 => ?_) (fun h86 => ?_)
            · refine zR ?_
              refine zLI ?_
              refine zn ?_
              refine zs ?_
              refine zs ?_
              refine zR ?_
              refine zLI ?_
              refine zLB ?_
              refine zn ?_
              refine W_cond (b := _) rfl (fun h88 => ?_) (fun h88 => ?_)
              · refine zs ?_
                refine zR ?_
                refine zLI ?_
                refine zLI ?_
                refine zLI ?_
                refine zLG [.int _ _, .int _ _, .int _ _] ?_
                refine zLN ?_
                refine zLI ?_
                refine zst (.agg [.int _ _, .int _ _, .int _ _]) [_, _, _] [[_, _, _]] ?_
                refine zn ?_
                refine zt ?_
                (refine ends (l := [.nils, .int _ _, .agg [.int _ _, .int _ _, .int _ _]]) (q := .tup [.ro _, .int _ _, .agg [.int _ _, .int _ _, .int _ _]]) (.inr rfl) rfl ⟨trivial, trivial, rfl, trivial⟩ rfl rfl ?_)
                try replace h20 : wh1 m = true := h20
                try replace h20 : wh1 m = false := h20
                try replace h25 : wh2 m = true := h25
                try replace h25 : wh2 m = false := h25
                try replace h41 : wh3 m = true := h41
                try replace h41 : wh3 m = false := h41
                try replace h47 : wh4 m = true := h47
                try replace h47 : wh4 m = false := h47
                first
                | (simp [wholeF, *, faultC]; done)
                | (simp only [List.length_map] at h67
                   rcases Nat.lt_or_ge k m.Ops.length with hlt | hge
                   · first
                     | (rw [hw, wgo_bad hlt (werr_big (show wbig (m.Ops.getD k default) l s = true from h86)) (show ((86 : Int) != 0) = true from h88)]; rfl)
                     | (rw [hw, wgo_bad hlt (werr_ok (show wbig (m.Ops.getD k default) l s = false from h86)) (show (opE (m.Ops.getD k default) l != 0) = true from h88_1)]; rfl)
                     | (simp at h67; omega)
                   · have he : k = m.Ops.length := Nat.le_antisymm hk hge
                     subst he
                     (simp at h67; done))
              · refine zk ?_
                refine zR ?_
                refine zLA ?_
                refine zLG [.int _ _, .int _ _, .int _ _] ?_
                refine L_build Tb_ok (t := 131) (len := 1) (el := 23) (sz := 3) (es := [[_, _, _]]) (z := [.int .i64 0, .int .i64 0, .int .i64 0]) rfl rfl rfl rfl rfl (by decide) trivial rfl rfl rfl rfl rfl ?_
                refine L_app1 Tb_ok (xs := l) (v := opS (m.Ops.getD k default) l) (el := 23) (sz := 3) rfl rfl rfl rfl rfl ⟨trivial, trivial⟩ (fun _ => ⟨rfl, rfl⟩) (by rw [show (Tb.at 23).bytes = 24 from rfl]; omega) rfl ?_
                refine zLA ?_
                refine zn ?_
                refine zR ?_
                refine zLI ?_
                refine zLI ?_
                refine zn ?_
                have hlt : k < m.Ops.length := by simpa using h67
                refine round_end ⟨k + 1, l ++ [opS (m.Ops.getD k default) l], w64 (s + opW (m.Ops.getD k default) l), hlt, by simp [hl], hm, ?_⟩ (by dsimp only; omega) (le_fit ⟨rfl, rfl, rfl, rfl, rfl, rfl, congrArg _ (w_succ hlt (by omega)), trivial⟩ ⟨.inr rfl, .inr rfl, trivial⟩ ⟨.inr rfl, trivial⟩ rfl rfl rfl rfl rfl)
                first
                | (rw [hw]; exact wgo_good hlt (werr_big (show wbig (m.Ops.getD k default) l s = true from h86)) (show ((86 : Int) != 0) = false from h88))
                | (rw [hw]; exact wgo_good hlt (werr_ok (show wbig (m.Ops.getD k default) l s = false from h86)) (show (opE (m.Ops.getD k default) l != 0) = false from h88_1))
            · refine zk ?_
              refine zs ?_
              refine zs ?_
              refine zR ?_
              refine zLI ?_
              refine zLB ?_
              refine zn ?_
              refine W_cond (b := _) rfl (fun h88_1 => ?_) (fun h88_1 => ?_)
              · refine zs ?_
                refine zR ?_
                refine zLI ?_
                refine zLI ?_
                refine zLI ?_
                refine zLG [.int _ _, .int _ _, .int _ _] ?_
                refine zLN ?_
                refine zLI ?_
                refine zst (.agg [.int _ _, .int _ _, .int _ _]) [_, _, _] [[_, _, _]] ?_
                refine zn ?_
                refine zt ?_
                (refine ends (l := [.nils, .int _ _, .agg [.int _ _, .int _ _, .int _ _]]) (q := .tup [.ro _, .int _ _, .agg [.int _ _, .int _ _, .int _ _]]) (.inr rfl) rfl ⟨trivial, trivial, rfl, trivial⟩ rfl rfl ?_)
                try replace h20 : wh1 m = true := h20
                try replace h20 : wh1 m = false := h20
                try replace h25 : wh2 m = true := h25
                try replace h25 : wh2 m = false := h25
                try replace h41 : wh3 m = true := h41
                try replace h41 : wh3 m = false := h41
                try replace h47 : wh4 m = true := h47
                try replace h47 : wh4 m = false := h47
                first
                | (simp [wholeF, *, faultC]; done)
                | (simp only [List.length_map] at h67
                   rcases Nat.lt_or_ge k m.Ops.length with hlt | hge
                   · first
                     | (rw [hw, wgo_bad hlt (werr_big (show wbig (m.Ops.getD k default) l s = true from h86)) (show ((86 : Int) != 0) = true from h88)]; rfl)
                     | (rw [hw, wgo_bad hlt (werr_ok (show wbig (m.Ops.getD k default) l s = false from h86)) (show (opE (m.Ops.getD k default) l != 0) = true from h88_1)]; rfl)
                     | (simp at h67; omega)
                   · have he : k = m.Ops.length := Nat.le_antisymm hk hge
                     subst he
                     (simp at h67; done))
              · refine zk ?_
                refine zR ?_
                refine zLA ?_
                refine zLG [.int _ _, .int _ _, .int _ _] ?_
                refine L_build Tb_ok (t := 131) (len := 1) (el := 23) (sz := 3) (es := [[_, _, _]]) (z := [.int .i64 0, .int .i64 0, .int .i64 0]) rfl rfl rfl rfl rfl (by decide) trivial rfl rfl rfl rfl rfl ?_
                refine L_app1 Tb_ok (xs := l) (v := opS (m.Ops.getD k default) l) (el := 23) (sz := 3) rfl rfl rfl rfl rfl ⟨trivial, trivial⟩ (fun _ => ⟨rfl, rfl⟩) (by rw [show (Tb.at 23).bytes = 24 from rfl]; omega) rfl ?_
                refine zLA ?_
                refine zn ?_
                refine zR ?_
                refine zLI ?_
                refine zLI ?_
                refine zn ?_
                have hlt : k < m.Ops.length := by simpa using h67
                refine round_end ⟨k + 1, l ++ [opS (m.Ops.getD k default) l], w64 (s + opW (m.Ops.getD k default) l), hlt, by simp [hl], hm, ?_⟩ (by dsimp only; omega) (le_fit ⟨rfl, rfl, rfl, rfl, rfl, rfl, congrArg _ (w_succ hlt (by omega)), trivial⟩ ⟨.inr rfl, .inr rfl, trivial⟩ ⟨.inr rfl, trivial⟩ rfl rfl rfl rfl rfl)
                first
                | (rw [hw]; exact wgo_good hlt (werr_big (show wbig (m.Ops.getD k default) l s = true from h86)) (show ((86 : Int) != 0) = false from h88))
                | (rw [hw]; exact wgo_good hlt (werr_ok (show wbig (m.Ops.getD k default) l s = false from h86)) (show (opE (m.Ops.getD k default) l != 0) = false from h88_1))
          · refine W_exit ?_
            repeat (first | refine pass_then ?_ | refine pass_round ?_)
            refine blockQ_hit ?_
            refine zs ?_
            refine zR ?_
            refine zLA ?_
            refine zLI ?_
            refine zLG [.int _ _, .int _ _, .int _ _] ?_
            refine zLA ?_
            refine zLI ?_
            refine zst (.agg [.int _ _, .int _ _, .int _ _]) [_, _, _] [[_, _, _]] ?_
            refine zn ?_
            refine zt ?_
            (refine ends (l := [.app _ _, .int _ _, .agg [.int _ _, .int _ _, .int _ _]]) (q := .tup [.ro _, .int _ _, .agg [.int _ _, .int _ _, .int _ _]]) (.inr rfl) rfl ⟨trivial, trivial, rfl, trivial⟩ rfl rfl ?_)
            try replace h20 : wh1 m = true := h20
            try replace h20 : wh1 m = false := h20
            try replace h25 : wh2 m = true := h25
            try replace h25 : wh2 m = false := h25
            try replace h41 : wh3 m = true := h41
            try replace h41 : wh3 m = false := h41
            try replace h47 : wh4 m = true := h47
            try replace h47 : wh4 m = false := h47
            first
            | (simp [wholeF, *, faultC]; done)
            | (simp only [List.length_map] at h67
               rcases Nat.lt_or_ge k m.Ops.length with hlt | hge
               · first
                 | (rw [hw, wgo_bad hlt (werr_big (show wbig (m.Ops.getD k default) l s = true from h86)) (show ((86 : Int) != 0) = true from h88)]; rfl)
                 | (rw [hw, wgo_bad hlt (werr_ok (show wbig (m.Ops.getD k default) l s = false from h86)) (show (opE (m.Ops.getD k default) l != 0) = true from h88_1)]; rfl)
                 | (simp at h67; omega)
               · have he : k = m.Ops.length := Nat.le_antisymm hk hge
                 subst he
                 (rw [hw, List.drop_length, wgo]; rfl))
end Go.AM
end
section
open Go Go.AM Go.Proofs
set_option maxRecDepth 10000
set_option linter.unusedVariables false
set_option linter.unusedSimpArgs false
namespace Go.AM
theorem opE_ok {o : MOp} {l : List Shape} (h : opE o l = 0) : op1 o = false ∧ op2 o l = false ∧ op3 o = false ∧ op4 o = false ∧ mkE o (inA o l) = 0 ∧ op6 o l = false ∧ op7 o l = false ∧ op8 o l = false ∧ op9 o = false ∧ op10 o = false := by
  unfold opE at h
  cases h1 : op1 o <;> simp only [h1, if_true, if_false, Bool.false_eq_true] at h <;> try omega
  cases h2 : op2 o l <;> simp only [h2, if_true, if_false, Bool.false_eq_true] at h <;> try omega
  cases h3 : op3 o <;> simp only [h3, if_true, if_false, Bool.false_eq_true] at h <;> try omega
  cases h4 : op4 o <;> simp only [h4, if_true, if_false, Bool.false_eq_true] at h <;> try omega
  cases h5 : op5 o l <;> simp only [h5, if_true, if_false, Bool.false_eq_true] at h
  · have h5' : mkE o (inA o l) = 0 := by simpa [op5] using h5
    cases h6 : op6 o l <;> simp only [h6, if_true, if_false, Bool.false_eq_true] at h <;> try omega
    cases h7 : op7 o l <;> simp only [h7, if_true, if_false, Bool.false_eq_true] at h <;> try omega
    cases h8 : op8 o l <;> simp only [h8, if_true, if_false, Bool.false_eq_true] at h <;> try omega
    cases h9 : op9 o <;> simp only [h9, if_true, if_false, Bool.false_eq_true] at h <;> try omega
    cases h10 : op10 o <;> simp only [h10, if_true, if_false, Bool.false_eq_true] at h <;> try omega
    exact ⟨rfl, rfl, rfl, rfl, h5', rfl, rfl, rfl, rfl, rfl⟩
  · simp [op5, h] at h5
theorem opS_ok {o : MOp} {l : List Shape} (h : opE o l = 0) : opS o l = mkS o (inA o l) := by
  obtain ⟨h1, h2, h3, h4, h5, h6, h7, h8, h9, h10⟩ := opE_ok h
  have h5' : op5 o l = false := by simp [op5, h5]
  simp [opS, h1, h2, h3, h4, h5', h6, h7, h8, h9, h10]
theorem werr_zero {o : MOp} {l : List Shape} {s : Int} (h : (werr o l s != 0) = false) : opE o l = 0 := by
  cases hb : wbig o l s
  · rw [werr_ok hb] at h; simpa using h
  · rw [werr_big hb] at h; simp at h
theorem wgo_ok : ∀ (r : List MOp) (k : Nat) (l : List Shape) (s : Int), k + r.length < 1000 → (wgo r k l s).2.2.Err = 0 → ∃ L, (wgo r k l s).1 = l ++ L ∧ L.length = r.length ∧ ∀ i, i < r.length → opE (r.getD i default) (l ++ L.take i) = 0 ∧ L.getD i default = opS (r.getD i default) (l ++ L.take i)
  | [], k, l, s, _, h => ⟨[], by simp [wgo], rfl, fun i hi => by simp at hi⟩
  | o :: r, k, l, s, hk, h => by
    rw [wgo] at h ⊢
    cases hw : werr o l s != 0 with
    | true =>
      rw [hw] at h
      simp at hw
      exact absurd h hw
    | false =>
      rw [hw] at h
      obtain ⟨L, h1, h2, h3⟩ := wgo_ok r (k + 1) _ _ (by simp at hk; omega) h
      refine ⟨opS o l :: L, ?_, by simp [h2], fun i hi => ?_⟩
      · show (wgo r (k + 1) (l ++ [opS o l]) _).1 = _
        rw [h1]; simp
      · cases i with
        | zero => exact ⟨by simpa using werr_zero hw, by simp⟩
        | succ i =>
          have := h3 i (by simpa using hi)
          simpa using this
/-- a model without fault -/
theorem whole_ok {m : Model} (h : (wholeF m).2.2.Err = 0) : m.Ops.length ≤ 64 ∧ shapeE m.In = 0 ∧ (0 ≤ m.Out ∧ m.Out ≤ m.Ops.length) ∧ (wholeF m).1.length = m.Ops.length + 1 ∧ (wholeF m).1.getD 0 default = m.In ∧
    ∀ i, i < m.Ops.length → opE (m.Ops.getD i default) ((wholeF m).1.take (i + 1)) = 0 ∧ (wholeF m).1.getD (i + 1) default = opS (m.Ops.getD i default) ((wholeF m).1.take (i + 1)) := by
  unfold wholeF at h ⊢
  cases h1 : wh1 m <;> simp only [h1, if_true, if_false, Bool.false_eq_true] at h ⊢
  cases h2 : wh2 m <;> simp only [h2, if_true, if_false, Bool.false_eq_true] at h ⊢
  cases h3 : wh3 m <;> simp only [h3, if_true, if_false, Bool.false_eq_true] at h ⊢
  cases h4 : wh4 m <;> simp only [h4, if_true, if_false, Bool.false_eq_true] at h ⊢
  · have hl : m.Ops.length ≤ 64 := by simp [wh3] at h3; omega
    obtain ⟨L, e1, e2, e3⟩ := wgo_ok m.Ops 0 [m.In] 0 (by omega) h
    refine ⟨hl, by simpa [wh1] using h1, ?_, by rw [e1]; simp [e2], by rw [e1]; simp, fun i hi => ?_⟩
    · simp [wh4] at h4; omega
    · have := e3 i hi
      rw [e1]
      simpa [List.take_succ_cons] using this
  · omega
  · omega
  · omega
  · simp [wh1] at h1; omega
theorem op2_ok {o : MOp} {l : List Shape} (h : op2 o l = false) : 0 ≤ o.A ∧ o.A < l.length ∧ ((ofU o.Kind).b = true → 0 ≤ o.B ∧ o.B < l.length) := by
  unfold op2 at h
  simp at h
  refine ⟨by omega, by omega, fun hb => ?_⟩
  have := h.2 hb
  omega
theorem whole_A {m : Model} (h : (wholeF m).2.2.Err = 0) {i : Nat} (hi : i < m.Ops.length) : 0 ≤ (m.Ops.getD i default).A ∧ (m.Ops.getD i default).A < i + 1 := by
  obtain ⟨_, _, _, h4, _, h6⟩ := whole_ok h
  have h2 := op2_ok (opE_ok (h6 i hi).1).2.1
  rw [List.length_take, h4] at h2
  omega
end Go.AM
end
section
open Go Go.AM Go.Proofs
set_option maxRecDepth 10000
set_option linter.unusedVariables false
set_option linter.unusedSimpArgs false
namespace Go.AM
theorem model_Shapes (m : Model) : Ok Try.prog 74 [.agg (modelC m)] (.tup [.ro ((wholeF m).1.map shapeC), .agg (faultC (wholeF m).2.2)]) := by
  refine fn_ok Tb_ok (fn := Try.f74) Try.func74 rfl rfl (e := [(0, _)]) rfl (by decide) rfl ?_
  refine zs ?_
  refine zR ?_
  refine zbx [.int _ _, .int _ _, .int _ _, .int _ _, .int _ _, _, .int _ _] 7 ?_
  refine zLN ?_
  refine zal [.int .i64 0, .int .i64 0, .int .i64 0] 3 ?_
  refine zn ?_
  refine zs ?_
  refine zR ?_
  refine zLG [.int _ _, .int _ _, .int _ _, .int _ _, .int _ _, _, .int _ _] ?_
  refine zLc (model_whole m) ?_
  refine zLT [_, _, _] ?_
  refine zLO ?_
  refine zLI ?_
  refine zLG [.int _ _, .int _ _, .int _ _] ?_
  refine zal [.int .i64 0, .int .i64 0, .int .i64 0] 3 ?_
  refine zLO ?_
  refine zLI ?_
  refine zst (.agg [.int _ _, .int _ _, .int _ _]) [_, _, _] [[_, _, _]] ?_
  refine zn ?_
  refine zs ?_
  refine W_draw 3 Tb_mixed rfl (by decide) (by kernel_rfl) (by kernel_rfl) ?_
  refine zEO ?_
  refine zEG [.int _ _, .int _ _, .int _ _] ?_
  refine zEO ?_
  refine LexE_nil ?_
  refine zst (.agg [.int _ _, .int _ _, .int _ _]) [_, _, _] [[_, _, _]] ?_
  refine zn ?_
  refine zt ?_
  (refine ends (l := [.ro _, .agg [.int _ _, .int _ _, .int _ _]]) (q := .tup [.ro _, .agg [.int _ _, .int _ _, .int _ _]]) (.inr rfl) rfl ⟨trivial, rfl, trivial⟩ rfl rfl ?_)
  rfl
/-- an op that reduces, with its shapes -/
structure Site where
  (Op : MOp) (In Out : Shape) (Len : Int)
  deriving DecidableEq, Inhabited
def siteC (s : Site) : List AV := opC s.Op ++ (shapeC s.In ++ (shapeC s.Out ++ [.int .i64 s.Len]))
def site0 : Site := ⟨⟨0, 0, 0, 0, ⟨0, 0, 0, 0, 0, 0, 0, 0⟩, [], [], ⟨0, 0⟩, ⟨0, 0⟩, 0, 0, 0, 0⟩, ⟨0, 0, 0⟩, ⟨0, 0, 0⟩, 0⟩
def fi1 (m : Model) : Bool := (wholeF m).2.2.Err != 0
def fi2 (m : Model) (op : Int) : Bool := bif decide (op < 1) then true else decide (op > ((m.Ops.map opC).length : Int))
def opAt (m : Model) (op : Int) : MOp := m.Ops.getD (op - 1).toNat default
def fi3 (m : Model) (op : Int) : Bool := !inB (opAt m op).Kind 1 4
def findE (m : Model) (op : Int) : Int := if fi1 m then (wholeF m).2.2.Err else if fi2 m op then 3 else if fi3 m op then 81 else 0
def aAt (m : Model) (op : Int) : Shape := (wholeF m).1.getD (opAt m op).A.toNat default
def lenAt (m : Model) (op : Int) : Int := if (opAt m op).Kind = 1 then w64 (w64 ((aAt m op).H * (aAt m op).W) * (aAt m op).C) else if (opAt m op).Kind = 2 then w64 (w64 ((opAt m op).Win.KH * (opAt m op).Win.KW) * (aAt m op).C) else w64 ((opAt m op).Win.KH * (opAt m op).Win.KW)
def findS (m : Model) (op : Int) : Site := if fi1 m then site0 else if fi2 m op then site0 else if fi3 m op then site0 else ⟨opAt m op, aAt m op, (wholeF m).1.getD op.toNat default, lenAt m op⟩
theorem fi_ok {m : Model} {op : Int} (h1 : fi1 m = false) (h2 : fi2 m op = false) : 1 ≤ op ∧ op ≤ m.Ops.length ∧ IntKind.i64.wrap (op - 1) = op - 1 ∧ op < (wholeF m).1.length ∧ 0 ≤ (opAt m op).A ∧ (opAt m op).A < (wholeF m).1.length := by
  have he : (wholeF m).2.2.Err = 0 := by simpa [fi1] using h1
  obtain ⟨k1, _, _, k4, _, _⟩ := whole_ok he
  have ho : 1 ≤ op ∧ op ≤ m.Ops.length := by simp [fi2] at h2; omega
  have hA := whole_A he (i := (op - 1).toNat) (by omega)
  refine ⟨ho.1, ho.2, by rw [IntKind.wrap_i64]; omega, by rw [k4]; omega, hA.1, ?_⟩
  have := hA.2
  rw [k4]
  show (m.Ops.getD (op - 1).toNat default).A < _
  omega
theorem terms_find (m : Model) (op : Int) : Ok Try.prog 68 [.agg (modelC m), .int .i64 op] (.tup [.agg (siteC (findS m op)), .int .i64 (findE m op)]) := by
  refine fn_ok Tb_ok (fn := Try.f68) Try.func68 rfl rfl (e := [(0, _), (1, _)]) rfl (by decide) rfl ?_
  refine zs ?_
  refine zR ?_
  refine zbx [.int _ _, .int _ _, .int _ _, .int _ _, .int _ _, _, .int _ _] 7 ?_
  refine zal [.int .i64 0, .int .i64 0, .int .i64 0, .int .i64 0, .int .i64 0, .int .i64 0, .int .i64 0, .int .i64 0, .int .i64 0, .int .i64 0, .int .i64 0, .int .i64 0, .nils, .nils, .int .i64 0, .int .i64 0, .int .i64 0, .int .i64 0, .int .i64 0, .int .i64 0, .int .i64 0, .int .i64 0, .int .i64 0, .int .i64 0, .int .i64 0, .int .i64 0, .int .i64 0, .int .i64 0, .int .i64 0] 29 ?_
  refine zLI ?_
  refine zn ?_
  refine zs ?_
  refine zR ?_
  refine zLG [.int _ _, .int _ _, .int _ _, .int _ _, .int _ _, _, .int _ _] ?_
  refine zLc (model_Shapes m) ?_
  refine zLT [_, _] ?_
  refine zLO ?_
  refine zLG [.int _ _, .int _ _, .int _ _] ?_
  refine zal [.int .i64 0, .int .i64 0, .int .i64 0] 3 ?_
  refine zLO ?_
  refine zst (.agg [.int _ _, .int _ _, .int _ _]) [_, _, _] [[_, _, _]] ?_
  refine zn ?_
  refine zs ?_
  refine W_block ?_
  refine zs ?_
  refine zR ?_
  refine zLP ?_
  refine zLI ?_
  refine zLB ?_
  refine zLB ?_
  refine zn ?_
  refine W_cond (b := _) rfl (fun h14 => ?_) (fun h14 => ?_)
  · replace h14 : fi1 m = true := h14
    refine zs ?_
    refine W_drawF (fun e => [idOf (get e 4)]) 3 [[3, 4]] Tb_mixed rfl (by decide) (by kernel_rfl) ?_
    refine zSG [.int _ _, .int _ _, .int _ _, .int _ _, .int _ _, .int _ _, .int _ _, .int _ _, .int _ _, .int _ _, .int _ _, .int _ _, _, _, .int _ _, .int _ _, .int _ _, .int _ _, .int _ _, .int _ _, .int _ _, .int _ _, .int _ _, .int _ _, .int _ _, .int _ _, .int _ _, .int _ _, .int _ _] ?_
    refine zSP ?_
    refine zSI ?_
    refine S_nil ?_
    refine TT_one ?_
    refine TT_store Tb_ok (OSub_forget _ _) rfl (v := .agg [.int _ _, .int _ _, .int _ _, .int _ _, .int _ _, .int _ _, .int _ _, .int _ _, .int _ _, .int _ _, .int _ _, .int _ _, _, _, .int _ _, .int _ _, .int _ _, .int _ _, .int _ _, .int _ _, .int _ _, .int _ _, .int _ _, .int _ _, .int _ _, .int _ _, .int _ _, .int _ _, .int _ _]) (cs := [_, _, _, _, _, _, _, _, _, _, _, _, _, _, _, _, _, _, _, _, _, _, _, _, _, _, _, _, _]) (es' := [[_, _, _, _, _, _, _, _, _, _, _, _, _, _, _, _, _, _, _, _, _, _, _, _, _, _, _, _, _]]) rfl rfl rfl rfl rfl rfl rfl rfl rfl rfl rfl ⟨trivial, trivial⟩ (fun ht1 => ?_)
    refine TT_v Tb_ok ht1 rfl (v := .int _ _) (av rfl ⟨trivial, trivial⟩) rfl (fun ht2 => ?_)
    refine TT_nil ?_
    try clear ht2
    try clear ht1
    refine zt ?_
    refine ends (l := [.agg [.int _ _, .int _ _, .int _ _, .int _ _, .int _ _, .int _ _, .int _ _, .int _ _, .int _ _, .int _ _, .int _ _, .int _ _, _, _, .int _ _, .int _ _, .int _ _, .int _ _, .int _ _, .int _ _, .int _ _, .int _ _, .int _ _, .int _ _, .int _ _, .int _ _, .int _ _, .int _ _, .int _ _], .int _ _]) (q := .tup [.agg [.int _ _, .int _ _, .int _ _, .int _ _, .int _ _, .int _ _, .int _ _, .int _ _, .int _ _, .int _ _, .int _ _, .int _ _, _, _, .int _ _, .int _ _, .int _ _, .int _ _, .int _ _, .int _ _, .int _ _, .int _ _, .int _ _, .int _ _, .int _ _, .int _ _, .int _ _, .int _ _, .int _ _], .int _ _]) (.inr rfl) rfl ⟨rfl, trivial, trivial⟩ rfl rfl ?_
    (simp [findS, findE, *, siteC, site0, opC, shapeC, demC]; done)
  · replace h14 : fi1 m = false := h14
    refine zs ?_
    refine zR ?_
    refine zLI ?_
    refine zLB ?_
    refine zLB ?_
    refine zgLI ?_
    refine zgLP ?_
    refine zgLO ?_
    refine zgLI ?_
    refine zgLB ?_
    refine zpLB ?_
    refine zLB ?_
    refine zn ?_
    refine W_cond (b := _) rfl (fun h21 => ?_) (fun h21 => ?_)
    · replace h21 : fi2 m op = true := h21
      refine zs ?_
      refine zR ?_
      refine zLG [.int _ _, .int _ _, .int _ _, .int _ _, .int _ _, .int _ _, .int _ _, .int _ _, .int _ _, .int _ _, .int _ _, .int _ _, _, _, .int _ _, .int _ _, .int _ _, .int _ _, .int _ _, .int _ _, .int _ _, .int _ _, .int _ _, .int _ _, .int _ _, .int _ _, .int _ _, .int _ _, .int _ _] ?_
      refine zst (.agg [.int _ _, .int _ _, .int _ _, .int _ _, .int _ _, .int _ _, .int _ _, .int _ _, .int _ _, .int _ _, .int _ _, .int _ _, _, _, .int _ _, .int _ _, .int _ _, .int _ _, .int _ _, .int _ _, .int _ _, .int _ _, .int _ _, .int _ _, .int _ _, .int _ _, .int _ _, .int _ _, .int _ _]) [_, _, _, _, _, _, _, _, _, _, _, _, _, _, _, _, _, _, _, _, _, _, _, _, _, _, _, _, _] [[_, _, _, _, _, _, _, _, _, _, _, _, _, _, _, _, _, _, _, _, _, _, _, _, _, _, _, _, _]] ?_
      refine zLI ?_
      refine zn ?_
      refine zt ?_
      refine ends (l := [.agg [.int _ _, .int _ _, .int _ _, .int _ _, .int _ _, .int _ _, .int _ _, .int _ _, .int _ _, .int _ _, .int _ _, .int _ _, _, _, .int _ _, .int _ _, .int _ _, .int _ _, .int _ _, .int _ _, .int _ _, .int _ _, .int _ _, .int _ _, .int _ _, .int _ _, .int _ _, .int _ _, .int _ _], .int _ _]) (q := .tup [.agg [.int _ _, .int _ _, .int _ _, .int _ _, .int _ _, .int _ _, .int _ _, .int _ _, .int _ _, .int _ _, .int _ _, .int _ _, _, _, .int _ _, .int _ _, .int _ _, .int _ _, .int _ _, .int _ _, .int _ _, .int _ _, .int _ _, .int _ _, .int _ _, .int _ _, .int _ _, .int _ _, .int _ _], .int _ _]) (.inr rfl) rfl ⟨rfl, trivial, trivial⟩ rfl rfl ?_
      (simp [findS, findE, *, siteC, site0, opC, shapeC, demC]; done)
    · replace h21 : fi2 m op = false := h21
      obtain ⟨o1, o2, o3, o4, o5, o6⟩ := fi_ok h14 h21
      have o7 : 0 ≤ (m.Ops.getD (IntKind.i64.wrap (op - 1)).toNat default).A ∧ (m.Ops.getD (IntKind.i64.wrap (op - 1)).toNat default).A < (wholeF m).1.length := by rw [o3]; exact ⟨o5, o6⟩
      obtain ⟨o7, o8⟩ := o7
      refine zs ?_
      refine zR ?_
      refine zLP ?_
      refine zLO ?_
      refine zLI ?_
      refine zLI ?_
      (refine L_v Tb_ok (v := _) (ave_index_ro rfl rfl rfl (fun _ => rfl) rfl (by first | omega | assumption | decide | (simp_all; done) | (simp_all; omega)) (by first | omega | assumption | decide | (simp_all; done) | (simp_all; omega)) trivial) rfl ?_)
      refine zLQ ?_
      refine zLI ?_
      refine zLc (model_Reduces _) ?_
      refine zLB ?_
      refine zLB ?_
      refine zn ?_
      refine W_cond (b := _) rfl (fun h32 => ?_) (fun h32 => ?_)
      · refine zs ?_
        refine zR ?_
        refine zLG [.int _ _, .int _ _, .int _ _, .int _ _, .int _ _, .int _ _, .int _ _, .int _ _, .int _ _, .int _ _, .int _ _, .int _ _, _, _, .int _ _, .int _ _, .int _ _, .int _ _, .int _ _, .int _ _, .int _ _, .int _ _, .int _ _, .int _ _, .int _ _, .int _ _, .int _ _, .int _ _, .int _ _] ?_
        refine zst (.agg [.int _ _, .int _ _, .int _ _, .int _ _, .int _ _, .int _ _, .int _ _, .int _ _, .int _ _, .int _ _, .int _ _, .int _ _, _, _, .int _ _, .int _ _, .int _ _, .int _ _, .int _ _, .int _ _, .int _ _, .int _ _, .int _ _, .int _ _, .int _ _, .int _ _, .int _ _, .int _ _, .int _ _]) [_, _, _, _, _, _, _, _, _, _, _, _, _, _, _, _, _, _, _, _, _, _, _, _, _, _, _, _, _] [[_, _, _, _, _, _, _, _, _, _, _, _, _, _, _, _, _, _, _, _, _, _, _, _, _, _, _, _, _]] ?_
        refine zLI ?_
        refine zn ?_
        refine zt ?_
        refine ends (l := [.agg [.int _ _, .int _ _, .int _ _, .int _ _, .int _ _, .int _ _, .int _ _, .int _ _, .int _ _, .int _ _, .int _ _, .int _ _, _, _, .int _ _, .int _ _, .int _ _, .int _ _, .int _ _, .int _ _, .int _ _, .int _ _, .int _ _, .int _ _, .int _ _, .int _ _, .int _ _, .int _ _, .int _ _], .int _ _]) (q := .tup [.agg [.int _ _, .int _ _, .int _ _, .int _ _, .int _ _, .int _ _, .int _ _, .int _ _, .int _ _, .int _ _, .int _ _, .int _ _, _, _, .int _ _, .int _ _, .int _ _, .int _ _, .int _ _, .int _ _, .int _ _, .int _ _, .int _ _, .int _ _, .int _ _, .int _ _, .int _ _, .int _ _, .int _ _], .int _ _]) (.inr rfl) rfl ⟨rfl, trivial, trivial⟩ rfl rfl ?_
        (simp_all [fi3, findS, findE, siteC, site0, lenAt, opC, shapeC, demC, opAt, aAt, w64]; done)
      · refine zk ?_
        refine zs ?_
        refine W_drawF (fun e => []) 11 [[11, 12]] Tb_mixed rfl (by decide) (by kernel_rfl) ?_
        refine zSP ?_
        refine zSO ?_
        refine zSI ?_
        refine zSI ?_
        (refine S_v Tb_ok (v := _) (ave_index_ro rfl rfl rfl (fun _ => rfl) rfl (by first | omega | assumption | decide | (simp_all; done) | (simp_all; omega)) (by first | omega | assumption | decide | (simp_all; done) | (simp_all; omega)) trivial) rfl ?_)
        refine zSG [.int _ _, .int _ _, .int _ _, .int _ _, .int _ _, .int _ _, .int _ _, .int _ _, .int _ _, .int _ _, .int _ _, .int _ _, _, _, .int _ _, .int _ _, .int _ _, .int _ _, .int _ _, .int _ _, .int _ _, .int _ _] ?_
        refine zSO ?_
        refine zSI ?_
        (refine S_v Tb_ok (v := _) (ave_index_ro rfl rfl rfl (fun _ => rfl) rfl (by first | omega | assumption | decide | (simp_all; done) | (simp_all; omega)) (by first | omega | assumption | decide | (simp_all; done) | (simp_all; omega)) trivial) rfl ?_)
        refine zSG [.int _ _, .int _ _, .int _ _] ?_
        refine zSG [.int _ _, .int _ _, .int _ _, .int _ _, .int _ _, .int _ _, .int _ _, .int _ _, .int _ _, .int _ _, .int _ _, .int _ _, _, _, .int _ _, .int _ _, .int _ _, .int _ _, .int _ _, .int _ _, .int _ _, .int _ _, .int _ _, .int _ _, .int _ _, .int _ _, .int _ _, .int _ _, .int _ _] ?_
        refine S_nil ?_
        refine TT_one ?_
        refine TT_alloc Tb_ok (OSub_forget _ _) rfl (z := [.int .i64 0, .int .i64 0, .int .i64 0, .int .i64 0, .int .i64 0, .int .i64 0, .int .i64 0, .int .i64 0, .int .i64 0, .int .i64 0, .int .i64 0, .int .i64 0, .nils, .nils, .int .i64 0, .int .i64 0, .int .i64 0, .int .i64 0, .int .i64 0, .int .i64 0, .int .i64 0, .int .i64 0, .int .i64 0, .int .i64 0, .int .i64 0, .int .i64 0, .int .i64 0, .int .i64 0, .int .i64 0]) (n := 29) rfl rfl rfl rfl rfl rfl (fun ht1 => ?_)
        refine TT_store Tb_ok ht1 rfl (v := .agg [.int _ _, .int _ _, .int _ _, .int _ _, .int _ _, .int _ _, .int _ _, .int _ _, .int _ _, .int _ _, .int _ _, .int _ _, _, _, .int _ _, .int _ _, .int _ _, .int _ _, .int _ _, .int _ _, .int _ _, .int _ _, .int _ _, .int _ _, .int _ _, .int _ _, .int _ _, .int _ _, .int _ _]) (cs := [_, _, _, _, _, _, _, _, _, _, _, _, _, _, _, _, _, _, _, _, _, _, _, _, _, _, _, _, _]) (es' := [[_, _, _, _, _, _, _, _, _, _, _, _, _, _, _, _, _, _, _, _, _, _, _, _, _, _, _, _, _]]) rfl rfl rfl rfl rfl rfl rfl rfl rfl rfl rfl ⟨trivial, trivial⟩ (fun ht2 => ?_)
        refine TT_nil ?_
        try clear ht2
        try clear ht1
        refine zs ?_
        refine zR ?_
        refine zLO ?_
        refine zLP ?_
        refine zLP ?_
        refine zLI ?_
        (refine L_v Tb_ok (v := _) (ave_index_ro rfl rfl rfl (fun _ => rfl) rfl (by first | omega | assumption | decide | (simp_all; done) | (simp_all; omega)) (by first | omega | assumption | decide | (simp_all; done) | (simp_all; omega)) trivial) rfl ?_)
        refine zLG [.int _ _, .int _ _, .int _ _] ?_
        refine zLP ?_
        refine zst (.agg [.int _ _, .int _ _, .int _ _]) [_, _, _] [[_, _, _, _, _, _, _, _, _, _, _, _, _, _, _, _, _, _, _, _, _, _, _, _, _, _, _, _, _]] ?_
        refine zn ?_
        refine zs ?_
        refine zR ?_
        refine zLP ?_
        refine zLP ?_
        refine zLP ?_
        refine zLI ?_
        refine zLP ?_
        refine zLP ?_
        refine zLP ?_
        refine zLI ?_
        refine zLI ?_
        refine zLP ?_
        refine zst (.int _ _) [_] [[_, _, _, _, _, _, _, _, _, _, _, _, _, _, _, _, _, _, _, _, _, _, _, _, _, _, _, _, _]] ?_
        refine zn ?_
        refine zs ?_
        refine zs ?_
        refine zR ?_
        refine zLP ?_
        refine zLP ?_
        refine zLI ?_
        refine zn ?_
        refine W_block ?_
        refine zs ?_
        refine zR ?_
        refine zLB ?_
        refine zLB ?_
        refine zn ?_
        refine W_cond (b := _) rfl (fun h74 => ?_) (fun h74 => ?_)
        · refine zR ?_
          refine zLP ?_
          refine zLP ?_
          refine zLI ?_
          refine zLP ?_
          refine zLP ?_
          refine zLI ?_
          refine zLI ?_
          refine zLP ?_
          refine zLP ?_
          refine zLI ?_
          refine zLI ?_
          refine zLP ?_
          refine zst (.int _ _) [_] [[_, _, _, _, _, _, _, _, _, _, _, _, _, _, _, _, _, _, _, _, _, _, _, _, _, _, _, _, _]] ?_
          refine zn ?_
          refine zs ?_
          refine zR ?_
          refine zLG [.int _ _, .int _ _, .int _ _, .int _ _, .int _ _, .int _ _, .int _ _, .int _ _, .int _ _, .int _ _, .int _ _, .int _ _, _, _, .int _ _, .int _ _, .int _ _, .int _ _, .int _ _, .int _ _, .int _ _, .int _ _, .int _ _, .int _ _, .int _ _, .int _ _, .int _ _, .int _ _, .int _ _] ?_
          refine zst (.agg [.int _ _, .int _ _, .int _ _, .int _ _, .int _ _, .int _ _, .int _ _, .int _ _, .int _ _, .int _ _, .int _ _, .int _ _, _, _, .int _ _, .int _ _, .int _ _, .int _ _, .int _ _, .int _ _, .int _ _, .int _ _, .int _ _, .int _ _, .int _ _, .int _ _, .int _ _, .int _ _, .int _ _]) [_, _, _, _, _, _, _, _, _, _, _, _, _, _, _, _, _, _, _, _, _, _, _, _, _, _, _, _, _] [[_, _, _, _, _, _, _, _, _, _, _, _, _, _, _, _, _, _, _, _, _, _, _, _, _, _, _, _, _]] ?_
          refine zLI ?_
          refine zn ?_
          refine zt ?_
          refine ends (l := [.agg [.int _ _, .int _ _, .int _ _, .int _ _, .int _ _, .int _ _, .int _ _, .int _ _, .int _ _, .int _ _, .int _ _, .int _ _, _, _, .int _ _, .int _ _, .int _ _, .int _ _, .int _ _, .int _ _, .int _ _, .int _ _, .int _ _, .int _ _, .int _ _, .int _ _, .int _ _, .int _ _, .int _ _], .int _ _]) (q := .tup [.agg [.int _ _, .int _ _, .int _ _, .int _ _, .int _ _, .int _ _, .int _ _, .int _ _, .int _ _, .int _ _, .int _ _, .int _ _, _, _, .int _ _, .int _ _, .int _ _, .int _ _, .int _ _, .int _ _, .int _ _, .int _ _, .int _ _, .int _ _, .int _ _, .int _ _, .int _ _, .int _ _, .int _ _], .int _ _]) (.inr rfl) rfl ⟨rfl, trivial, trivial⟩ rfl rfl ?_
          (simp_all [fi3, findS, findE, siteC, site0, lenAt, opC, shapeC, demC, opAt, aAt, w64]; done)
        · refine zs ?_
          refine zR ?_
          refine zLB ?_
          refine zLB ?_
          refine zn ?_
          refine W_cond (b := _) rfl (fun h88 => ?_) (fun h88 => ?_)
          · refine zR ?_
            refine zLP ?_
            refine zLI ?_
            refine zLP ?_
            refine zLP ?_
            refine zLI ?_
            refine zLI ?_
            refine zLP ?_
            refine zst (.int _ _) [_] [[_, _, _, _, _, _, _, _, _, _, _, _, _, _, _, _, _, _, _, _, _, _, _, _, _, _, _, _, _]] ?_
            refine zn ?_
            refine zs ?_
            refine zR ?_
            refine zLG [.int _ _, .int _ _, .int _ _, .int _ _, .int _ _, .int _ _, .int _ _, .int _ _, .int _ _, .int _ _, .int _ _, .int _ _, _, _, .int _ _, .int _ _, .int _ _, .int _ _, .int _ _, .int _ _, .int _ _, .int _ _, .int _ _, .int _ _, .int _ _, .int _ _, .int _ _, .int _ _, .int _ _] ?_
            refine zst (.agg [.int _ _, .int _ _, .int _ _, .int _ _, .int _ _, .int _ _, .int _ _, .int _ _, .int _ _, .int _ _, .int _ _, .int _ _, _, _, .int _ _, .int _ _, .int _ _, .int _ _, .int _ _, .int _ _, .int _ _, .int _ _, .int _ _, .int _ _, .int _ _, .int _ _, .int _ _, .int _ _, .int _ _]) [_, _, _, _, _, _, _, _, _, _, _, _, _, _, _, _, _, _, _, _, _, _, _, _, _, _, _, _, _] [[_, _, _, _, _, _, _, _, _, _, _, _, _, _, _, _, _, _, _, _, _, _, _, _, _, _, _, _, _]] ?_
            refine zLI ?_
            refine zn ?_
            refine zt ?_
            refine ends (l := [.agg [.int _ _, .int _ _, .int _ _, .int _ _, .int _ _, .int _ _, .int _ _, .int _ _, .int _ _, .int _ _, .int _ _, .int _ _, _, _, .int _ _, .int _ _, .int _ _, .int _ _, .int _ _, .int _ _, .int _ _, .int _ _, .int _ _, .int _ _, .int _ _, .int _ _, .int _ _, .int _ _, .int _ _], .int _ _]) (q := .tup [.agg [.int _ _, .int _ _, .int _ _, .int _ _, .int _ _, .int _ _, .int _ _, .int _ _, .int _ _, .int _ _, .int _ _, .int _ _, _, _, .int _ _, .int _ _, .int _ _, .int _ _, .int _ _, .int _ _, .int _ _, .int _ _, .int _ _, .int _ _, .int _ _, .int _ _, .int _ _, .int _ _, .int _ _], .int _ _]) (.inr rfl) rfl ⟨rfl, trivial, trivial⟩ rfl rfl ?_
            (simp_all [fi3, findS, findE, siteC, site0, lenAt, opC, shapeC, demC, opAt, aAt, w64]; done)
          · refine zk ?_
            refine zs ?_
            refine zR ?_
            refine zLG [.int _ _, .int _ _, .int _ _, .int _ _, .int _ _, .int _ _, .int _ _, .int _ _, .int _ _, .int _ _, .int _ _, .int _ _, _, _, .int _ _, .int _ _, .int _ _, .int _ _, .int _ _, .int _ _, .int _ _, .int _ _, .int _ _, .int _ _, .int _ _, .int _ _, .int _ _, .int _ _, .int _ _] ?_
            refine zst (.agg [.int _ _, .int _ _, .int _ _, .int _ _, .int _ _, .int _ _, .int _ _, .int _ _, .int _ _, .int _ _, .int _ _, .int _ _, _, _, .int _ _, .int _ _, .int _ _, .int _ _, .int _ _, .int _ _, .int _ _, .int _ _, .int _ _, .int _ _, .int _ _, .int _ _, .int _ _, .int _ _, .int _ _]) [_, _, _, _, _, _, _, _, _, _, _, _, _, _, _, _, _, _, _, _, _, _, _, _, _, _, _, _, _] [[_, _, _, _, _, _, _, _, _, _, _, _, _, _, _, _, _, _, _, _, _, _, _, _, _, _, _, _, _]] ?_
            refine zLI ?_
            refine zn ?_
            refine zt ?_
            refine ends (l := [.agg [.int _ _, .int _ _, .int _ _, .int _ _, .int _ _, .int _ _, .int _ _, .int _ _, .int _ _, .int _ _, .int _ _, .int _ _, _, _, .int _ _, .int _ _, .int _ _, .int _ _, .int _ _, .int _ _, .int _ _, .int _ _, .int _ _, .int _ _, .int _ _, .int _ _, .int _ _, .int _ _, .int _ _], .int _ _]) (q := .tup [.agg [.int _ _, .int _ _, .int _ _, .int _ _, .int _ _, .int _ _, .int _ _, .int _ _, .int _ _, .int _ _, .int _ _, .int _ _, _, _, .int _ _, .int _ _, .int _ _, .int _ _, .int _ _, .int _ _, .int _ _, .int _ _, .int _ _, .int _ _, .int _ _, .int _ _, .int _ _, .int _ _, .int _ _], .int _ _]) (.inr rfl) rfl ⟨rfl, trivial, trivial⟩ rfl rfl ?_
            (simp_all [fi3, findS, findE, siteC, site0, lenAt, opC, shapeC, demC, opAt, aAt, w64]; done)
end Go.AM
end
section
open Go Go.AM Go.Proofs
set_option maxRecDepth 10000
set_option linter.unusedVariables false
set_option linter.unusedSimpArgs false
namespace Go.AM
theorem terms_Length (m : Model) (op : Int) : Ok Try.prog 31 [.agg (modelC m), .int .i64 op] (.tup [.int .i64 (findS m op).Len, .int .i64 (findE m op)]) := by
  refine fn_ok Tb_ok (fn := Try.f31) Try.func31 rfl rfl (e := [(0, _), (1, _)]) rfl (by decide) rfl ?_
  refine zs ?_
  refine zR ?_
  refine zbx [.int _ _, .int _ _, .int _ _, .int _ _, .int _ _, _, .int _ _] 7 ?_
  refine zLI ?_
  refine zLI ?_
  refine zn ?_
  refine zs ?_
  refine zR ?_
  refine zLG [.int _ _, .int _ _, .int _ _, .int _ _, .int _ _, _, .int _ _] ?_
  refine zLI ?_
  refine zLc (terms_find m op) ?_
  refine zLT [_, _] ?_
  refine zLG [.int _ _, .int _ _, .int _ _, .int _ _, .int _ _, .int _ _, .int _ _, .int _ _, .int _ _, .int _ _, .int _ _, .int _ _, _, _, .int _ _, .int _ _, .int _ _, .int _ _, .int _ _, .int _ _, .int _ _, .int _ _, .int _ _, .int _ _, .int _ _, .int _ _, .int _ _, .int _ _, .int _ _] ?_
  refine zLI ?_
  refine zal [.int .i64 0, .int .i64 0, .int .i64 0, .int .i64 0, .int .i64 0, .int .i64 0, .int .i64 0, .int .i64 0, .int .i64 0, .int .i64 0, .int .i64 0, .int .i64 0, .nils, .nils, .int .i64 0, .int .i64 0, .int .i64 0, .int .i64 0, .int .i64 0, .int .i64 0, .int .i64 0, .int .i64 0, .int .i64 0, .int .i64 0, .int .i64 0, .int .i64 0, .int .i64 0, .int .i64 0, .int .i64 0] 29 ?_
  refine zst (.agg [.int _ _, .int _ _, .int _ _, .int _ _, .int _ _, .int _ _, .int _ _, .int _ _, .int _ _, .int _ _, .int _ _, .int _ _, _, _, .int _ _, .int _ _, .int _ _, .int _ _, .int _ _, .int _ _, .int _ _, .int _ _, .int _ _, .int _ _, .int _ _, .int _ _, .int _ _, .int _ _, .int _ _]) [_, _, _, _, _, _, _, _, _, _, _, _, _, _, _, _, _, _, _, _, _, _, _, _, _, _, _, _, _] [[_, _, _, _, _, _, _, _, _, _, _, _, _, _, _, _, _, _, _, _, _, _, _, _, _, _, _, _, _]] ?_
  refine zLI ?_
  refine zn ?_
  refine zs ?_
  refine zR ?_
  refine zLP ?_
  refine zLI ?_
  refine zLI ?_
  refine zLI ?_
  refine zLI ?_
  refine zn ?_
  refine zt ?_
  refine ends (l := [.int _ _, .int _ _]) (q := .tup [.int _ _, .int _ _]) (.inr rfl) rfl ⟨trivial, trivial, trivial⟩ rfl rfl ?_
  rfl
theorem terms_Channels (m : Model) (op : Int) : Ok Try.prog 37 [.agg (modelC m), .int .i64 op] (.tup [.int .i64 (findS m op).Out.C, .int .i64 (findE m op)]) := by
  refine fn_ok Tb_ok (fn := Try.f37) Try.func37 rfl rfl (e := [(0, _), (1, _)]) rfl (by decide) rfl ?_
  refine zs ?_
  refine zR ?_
  refine zbx [.int _ _, .int _ _, .int _ _, .int _ _, .int _ _, _, .int _ _] 7 ?_
  refine zLI ?_
  refine zLI ?_
  refine zn ?_
  refine zs ?_
  refine zR ?_
  refine zLG [.int _ _, .int _ _, .int _ _, .int _ _, .int _ _, _, .int _ _] ?_
  refine zLI ?_
  refine zLc (terms_find m op) ?_
  refine zLT [_, _] ?_
  refine zLG [.int _ _, .int _ _, .int _ _, .int _ _, .int _ _, .int _ _, .int _ _, .int _ _, .int _ _, .int _ _, .int _ _, .int _ _, _, _, .int _ _, .int _ _, .int _ _, .int _ _, .int _ _, .int _ _, .int _ _, .int _ _, .int _ _, .int _ _, .int _ _, .int _ _, .int _ _, .int _ _, .int _ _] ?_
  refine zLI ?_
  refine zal [.int .i64 0, .int .i64 0, .int .i64 0, .int .i64 0, .int .i64 0, .int .i64 0, .int .i64 0, .int .i64 0, .int .i64 0, .int .i64 0, .int .i64 0, .int .i64 0, .nils, .nils, .int .i64 0, .int .i64 0, .int .i64 0, .int .i64 0, .int .i64 0, .int .i64 0, .int .i64 0, .int .i64 0, .int .i64 0, .int .i64 0, .int .i64 0, .int .i64 0, .int .i64 0, .int .i64 0, .int .i64 0] 29 ?_
  refine zst (.agg [.int _ _, .int _ _, .int _ _, .int _ _, .int _ _, .int _ _, .int _ _, .int _ _, .int _ _, .int _ _, .int _ _, .int _ _, _, _, .int _ _, .int _ _, .int _ _, .int _ _, .int _ _, .int _ _, .int _ _, .int _ _, .int _ _, .int _ _, .int _ _, .int _ _, .int _ _, .int _ _, .int _ _]) [_, _, _, _, _, _, _, _, _, _, _, _, _, _, _, _, _, _, _, _, _, _, _, _, _, _, _, _, _] [[_, _, _, _, _, _, _, _, _, _, _, _, _, _, _, _, _, _, _, _, _, _, _, _, _, _, _, _, _]] ?_
  refine zLI ?_
  refine zn ?_
  refine zs ?_
  refine zR ?_
  refine zLP ?_
  refine zLP ?_
  refine zLI ?_
  refine zLI ?_
  refine zLI ?_
  refine zLI ?_
  refine zn ?_
  refine zt ?_
  refine ends (l := [.int _ _, .int _ _]) (q := .tup [.int _ _, .int _ _]) (.inr rfl) rfl ⟨trivial, trivial, trivial⟩ rfl rfl ?_
  rfl
theorem terms_Positions (m : Model) (op : Int) : Ok Try.prog 51 [.agg (modelC m), .int .i64 op] (.tup [.int .i64 (w64 ((findS m op).Out.H * (findS m op).Out.W)), .int .i64 (findE m op)]) := by
  refine fn_ok Tb_ok (fn := Try.f51) Try.func51 rfl rfl (e := [(0, _), (1, _)]) rfl (by decide) rfl ?_
  refine zs ?_
  refine zR ?_
  refine zbx [.int _ _, .int _ _, .int _ _, .int _ _, .int _ _, _, .int _ _] 7 ?_
  refine zLI ?_
  refine zLI ?_
  refine zn ?_
  refine zs ?_
  refine zR ?_
  refine zLG [.int _ _, .int _ _, .int _ _, .int _ _, .int _ _, _, .int _ _] ?_
  refine zLI ?_
  refine zLc (terms_find m op) ?_
  refine zLT [_, _] ?_
  refine zLG [.int _ _, .int _ _, .int _ _, .int _ _, .int _ _, .int _ _, .int _ _, .int _ _, .int _ _, .int _ _, .int _ _, .int _ _, _, _, .int _ _, .int _ _, .int _ _, .int _ _, .int _ _, .int _ _, .int _ _, .int _ _, .int _ _, .int _ _, .int _ _, .int _ _, .int _ _, .int _ _, .int _ _] ?_
  refine zLI ?_
  refine zal [.int .i64 0, .int .i64 0, .int .i64 0, .int .i64 0, .int .i64 0, .int .i64 0, .int .i64 0, .int .i64 0, .int .i64 0, .int .i64 0, .int .i64 0, .int .i64 0, .nils, .nils, .int .i64 0, .int .i64 0, .int .i64 0, .int .i64 0, .int .i64 0, .int .i64 0, .int .i64 0, .int .i64 0, .int .i64 0, .int .i64 0, .int .i64 0, .int .i64 0, .int .i64 0, .int .i64 0, .int .i64 0] 29 ?_
  refine zst (.agg [.int _ _, .int _ _, .int _ _, .int _ _, .int _ _, .int _ _, .int _ _, .int _ _, .int _ _, .int _ _, .int _ _, .int _ _, _, _, .int _ _, .int _ _, .int _ _, .int _ _, .int _ _, .int _ _, .int _ _, .int _ _, .int _ _, .int _ _, .int _ _, .int _ _, .int _ _, .int _ _, .int _ _]) [_, _, _, _, _, _, _, _, _, _, _, _, _, _, _, _, _, _, _, _, _, _, _, _, _, _, _, _, _] [[_, _, _, _, _, _, _, _, _, _, _, _, _, _, _, _, _, _, _, _, _, _, _, _, _, _, _, _, _]] ?_
  refine zLI ?_
  refine zn ?_
  refine zs ?_
  refine zR ?_
  refine zLP ?_
  refine zLP ?_
  refine zLI ?_
  refine zLP ?_
  refine zLP ?_
  refine zLI ?_
  refine zLI ?_
  refine zLI ?_
  refine zLI ?_
  refine zLI ?_
  refine zn ?_
  refine zt ?_
  refine ends (l := [.int _ _, .int _ _]) (q := .tup [.int _ _, .int _ _]) (.inr rfl) rfl ⟨trivial, trivial, trivial⟩ rfl rfl ?_
  rfl
def mPlain : Model := ⟨⟨1, 1, 2⟩, -128, 127, [⟨1, 0, 0, 1, ⟨0, 0, 0, 0, 0, 0, 0, 0⟩, [3, -2], [1], ⟨1, 0⟩, ⟨0, 0⟩, 0, 0, -128, 127⟩], 1⟩
theorem term_eq (x y : Term) : (x.W == y.W && (x.At == y.At && true)) = decide (x = y) := by cases x; cases y; simp [Bool.beq_eq_decide_eq, Bool.decide_and]
end Go.AM
end
section
open Go Go.AM
set_option linter.unusedVariables false
set_option linter.unusedSimpArgs false
namespace Go.AM
theorem shapeE_zero {s : Shape} : shapeE s = 0 ↔ shapeB s = true := by unfold shapeE; cases shapeB s <;> simp
theorem shapeB_iff {s : Shape} : shapeB s = true ↔ (1 ≤ s.H ∧ s.H ≤ 1024) ∧ (1 ≤ s.W ∧ s.W ≤ 1024) ∧ (1 ≤ s.C ∧ s.C ≤ 1024) ∧ s.H * s.W * s.C ≤ 16384 := by
  have key : (1 ≤ s.H ∧ s.H ≤ 1024) → (1 ≤ s.W ∧ s.W ≤ 1024) → (1 ≤ s.C ∧ s.C ≤ 1024) → elems s = s.H * s.W * s.C := by
    intro h1 h2 h3
    have a1 : 0 ≤ s.H * s.W := Int.mul_nonneg (by omega) (by omega)
    have a2 : s.H * s.W ≤ 1024 * 1024 := Int.mul_le_mul h1.2 h2.2 (by omega) (by omega)
    have b1 : 0 ≤ s.H * s.W * s.C := Int.mul_nonneg a1 (by omega)
    have b2 : s.H * s.W * s.C ≤ 1024 * 1024 * 1024 := Int.mul_le_mul a2 h3.2 (by omega) (by omega)
    unfold elems w64
    rw [w64_id (x := s.H * s.W) (by omega), w64_id (by omega)]
  constructor
  · intro h
    simp only [shapeB, inB, Bool.and_eq_true, decide_eq_true_eq] at h
    obtain ⟨⟨⟨h1, h2⟩, h3⟩, h4⟩ := h
    rw [key h1 h2 h3] at h4
    exact ⟨h1, h2, h3, h4⟩
  · rintro ⟨h1, h2, h3, h4⟩
    simp only [shapeB, inB, Bool.and_eq_true, decide_eq_true_eq]
    rw [key h1 h2 h3]
    exact ⟨⟨⟨h1, h2⟩, h3⟩, h4⟩
theorem windowB_iff {w : Window} (h : windowB w = true) : (1 ≤ w.KH ∧ w.KH ≤ 32) ∧ (1 ≤ w.KW ∧ w.KW ≤ 32) ∧ (1 ≤ w.SH ∧ w.SH ≤ 32) ∧ (1 ≤ w.SW ∧ w.SW ≤ 32) ∧ (0 ≤ w.Top ∧ w.Top < w.KH) ∧ (0 ≤ w.Bottom ∧ w.Bottom < w.KH) ∧ (0 ≤ w.Left ∧ w.Left < w.KW) ∧ (0 ≤ w.Right ∧ w.Right < w.KW) := by
  simp only [windowB, sideB, inB, Bool.and_eq_true, decide_eq_true_eq] at h
  obtain ⟨⟨⟨⟨h1, h2⟩, h3⟩, h4⟩, ⟨⟨h5, h6⟩, h7⟩, h8⟩ := h
  have e1 : w64 (w.KH - 1) = w.KH - 1 := w64_id (by omega)
  have e2 : w64 (w.KW - 1) = w.KW - 1 := w64_id (by omega)
  rw [e1] at h3 h4
  rw [e2] at h7 h8
  omega
theorem shapes_ok {m : Model} (h : (wholeF m).2.2.Err = 0) {i : Nat} (hi : i ≤ m.Ops.length) : shapeB ((wholeF m).1.getD i default) = true := by
  obtain ⟨_, h2, _, h4, h5, h6⟩ := whole_ok h
  cases i with
  | zero => rw [h5]; exact shapeE_zero.1 h2
  | succ i =>
    obtain ⟨e1, e2⟩ := h6 i (by omega)
    rw [e2, opS_ok e1]
    have := (opE_ok e1).2.2.2.2.2.1
    unfold op6 at this
    cases hq : (shapeE (mkS (m.Ops.getD i default) (inA (m.Ops.getD i default) ((wholeF m).1.take (i + 1)))) != 0) with
    | true => rw [hq] at this; simp at this
    | false => exact shapeE_zero.1 (by simpa using hq)
theorem outE_zero {s : Shape} {w : Window} (h : outE s w = 0) : shapeB s = true ∧ windowB w = true ∧ 0 ≤ spanH s w ∧ 0 ≤ spanW s w := by
  unfold outE at h
  split at h
  · split at h
    · split at h
      · omega
      · refine ⟨by assumption, by assumption, by omega, by omega⟩
    · omega
  · omega
/-- of an op that reduces -/
structure SiteOk (S : Site) : Prop where
  kind : 1 ≤ S.Op.Kind ∧ S.Op.Kind ≤ 4
  inB : shapeB S.In = true
  outB : shapeB S.Out = true
  len : 1 ≤ S.Len ∧ S.Len ≤ 512
  len1 : S.Op.Kind = 1 → S.Len = S.In.H * S.In.W * S.In.C
  len2 : S.Op.Kind = 2 → S.Len = S.Op.Win.KH * S.Op.Win.KW * S.In.C
  len3 : S.Op.Kind = 3 ∨ S.Op.Kind = 4 → S.Len = S.Op.Win.KH * S.Op.Win.KW
  win : S.Op.Kind ≠ 1 → windowB S.Op.Win = true ∧ outE S.In S.Op.Win = 0 ∧ S.Out.H = outH S.In S.Op.Win ∧ S.Out.W = outW S.In S.Op.Win
  out1 : S.Op.Kind = 1 → S.Out = ⟨1, 1, S.Op.M⟩
  out2 : S.Op.Kind = 2 → S.Out.C = S.Op.M
  out3 : S.Op.Kind = 3 ∨ S.Op.Kind = 4 → S.Out.C = S.In.C
  wl : S.Op.Kind ≠ 4 → (S.Op.Weights.length : Int) = S.Out.C * S.Len
  bl : S.Op.Kind ≠ 4 → (S.Op.Bias.length : Int) = S.Out.C
  emp : op3 S.Op = false
  rng : op10 S.Op = false
  sc : op9 S.Op = false
theorem ofU_kind {k : Int} (h1 : 1 ≤ k) (h2 : k ≤ 4) : (ofU k).win = !(k == 1) ∧ (ofU k).weights = !(k == 4) ∧ (ofU k).b = false := by
  have : k = 1 ∨ k = 2 ∨ k = 3 ∨ k = 4 := by omega
  rcases this with rfl | rfl | rfl | rfl <;> exact ⟨rfl, rfl, rfl⟩
theorem site_ok {m : Model} {op : Int} (h : findE m op = 0) : SiteOk (findS m op) ∧ (1 ≤ op ∧ op ≤ m.Ops.length) ∧ (findS m op).Op = m.Ops.getD (op - 1).toNat default ∧ (wholeF m).2.2.Err = 0 ∧ findS m op = ⟨opAt m op, aAt m op, (wholeF m).1.getD op.toNat default, lenAt m op⟩ := by
  have h1 : fi1 m = false := by
    cases hq : fi1 m with
    | false => rfl
    | true => simp only [findE, hq, if_true] at h; unfold fi1 at hq; rw [h] at hq; simp at hq
  have h2 : fi2 m op = false := by
    cases hq : fi2 m op with
    | false => rfl
    | true => simp [findE, h1, hq] at h
  have h3 : fi3 m op = false := by
    cases hq : fi3 m op with
    | false => rfl
    | true => simp [findE, h1, h2, hq] at h
  have he : (wholeF m).2.2.Err = 0 := by simpa [fi1] using h1
  obtain ⟨o1, o2, o3, o4, o5, o6⟩ := fi_ok h1 h2
  have hS : findS m op = ⟨opAt m op, aAt m op, (wholeF m).1.getD op.toNat default, lenAt m op⟩ := by simp [findS, h1, h2, h3]
  obtain ⟨w1, w2, w3, w4, w5, w6⟩ := whole_ok he
  have hi : (op - 1).toNat < m.Ops.length := by omega
  obtain ⟨e1, e2⟩ := w6 _ hi
  have ei : (op - 1).toNat + 1 = op.toNat := by omega
  rw [ei] at e1 e2
  rw [opS_ok e1] at e2
  have hA := whole_A he hi
  have eA : inA (m.Ops.getD (op - 1).toNat default) ((wholeF m).1.take op.toNat) = aAt m op := by
    unfold inA aAt opAt
    simp only [List.getD_eq_getElem?_getD] at hA ⊢
    rw [List.getElem?_take, if_pos (by omega)]
  obtain ⟨p1, p2, p3, p4, p5, p6, p7, p8, p9, p10⟩ := opE_ok e1
  rw [eA] at e2 p5
  have hk : 1 ≤ (opAt m op).Kind ∧ (opAt m op).Kind ≤ 4 := by simpa [fi3, inB] using h3
  have sA : shapeB (aAt m op) = true := by
    have := shapes_ok he (i := (opAt m op).A.toNat) (by show (m.Ops.getD (op - 1).toNat default).A.toNat ≤ _; omega)
    exact this
  have sO : shapeB ((wholeF m).1.getD op.toNat default) = true := shapes_ok he (by omega)
  rw [e2] at sO
  obtain ⟨u1, u2, u3⟩ := ofU_kind hk.1 hk.2
  have sB := shapeB_iff.1 sA
  have eo : opAt m op = m.Ops.getD (op - 1).toNat default := rfl
  rw [← eo] at e2 p2 p3 p4 p5 p6 p7 p8 p9 p10 sO eA
  simp only [op7, op8, opR, eA, u2] at p7 p8
  have hwin : (opAt m op).Kind ≠ 1 → windowB (opAt m op).Win = true ∧ outE (aAt m op) (opAt m op).Win = 0 := by
    intro hne
    have : outE (aAt m op) (opAt m op).Win = 0 := by
      unfold mkE at p5; rw [u1] at p5
      have : ((opAt m op).Kind == 1) = false := by simpa using hne
      rw [this] at p5; exact p5
    exact ⟨(outE_zero this).2.1, this⟩
  have el : mkL (opAt m op) (aAt m op) = lenAt m op := by
    unfold mkL lenAt
    rw [if_pos p5]
    have hx : (opAt m op).Kind ≠ 1 → mkX (opAt m op) (aAt m op) = (⟨outH (aAt m op) (opAt m op).Win, outW (aAt m op) (opAt m op).Win, (aAt m op).C⟩, w64 ((opAt m op).Win.KH * (opAt m op).Win.KW)) := by
      intro hne
      unfold mkX; rw [u1]
      have : ((opAt m op).Kind == 1) = false := by simpa using hne
      rw [this]; rfl
    by_cases k1 : (opAt m op).Kind = 1
    · simp [k1]
    · rw [if_neg k1, if_neg k1, hx k1]
      by_cases k2 : (opAt m op).Kind = 2
      · simp [k2]
      · rw [if_neg k2, if_neg k2, if_pos (by omega)]
  have eS : mkS (opAt m op) (aAt m op) = if (opAt m op).Kind = 1 then ⟨1, 1, (opAt m op).M⟩ else if (opAt m op).Kind = 2 then ⟨outH (aAt m op) (opAt m op).Win, outW (aAt m op) (opAt m op).Win, (opAt m op).M⟩ else ⟨outH (aAt m op) (opAt m op).Win, outW (aAt m op) (opAt m op).Win, (aAt m op).C⟩ := by
    unfold mkS
    rw [if_pos p5]
    by_cases k1 : (opAt m op).Kind = 1
    · rw [if_pos k1, if_pos k1]
    · rw [if_neg k1, if_neg k1]
      unfold mkX; rw [u1]
      have : ((opAt m op).Kind == 1) = false := by simpa using k1
      rw [this]; rfl
  have sO' := shapeB_iff.1 sO
  have hlen : lenAt m op = (if (opAt m op).Kind = 1 then (aAt m op).H * (aAt m op).W * (aAt m op).C else if (opAt m op).Kind = 2 then (opAt m op).Win.KH * (opAt m op).Win.KW * (aAt m op).C else (opAt m op).Win.KH * (opAt m op).Win.KW) ∧ 1 ≤ lenAt m op := by
    unfold lenAt
    by_cases k1 : (opAt m op).Kind = 1
    · rw [if_pos k1, if_pos k1]
      have a0 : 1 ≤ (aAt m op).H * (aAt m op).W := by
        have := Int.mul_le_mul sB.1.1 sB.2.1.1 (by omega) (by omega); omega
      have a2 : (aAt m op).H * (aAt m op).W ≤ 1024 * 1024 := Int.mul_le_mul sB.1.2 sB.2.1.2 (by omega) (by omega)
      have b0 : 1 ≤ (aAt m op).H * (aAt m op).W * (aAt m op).C := by
        have := Int.mul_le_mul a0 sB.2.2.1.1 (by omega) (by omega); omega
      have b2 := sB.2.2.2
      unfold w64
      rw [w64_id (x := (aAt m op).H * (aAt m op).W) (by omega), w64_id (by omega)]
      exact ⟨rfl, b0⟩
    · obtain ⟨hw, _⟩ := hwin k1
      have W := windowB_iff hw
      rw [if_neg k1, if_neg k1]
      have a0 : 1 ≤ (opAt m op).Win.KH * (opAt m op).Win.KW := by
        have := Int.mul_le_mul W.1.1 W.2.1.1 (by omega) (by omega); omega
      have a2 : (opAt m op).Win.KH * (opAt m op).Win.KW ≤ 32 * 32 := Int.mul_le_mul W.1.2 W.2.1.2 (by omega) (by omega)
      have ew : w64 ((opAt m op).Win.KH * (opAt m op).Win.KW) = (opAt m op).Win.KH * (opAt m op).Win.KW := w64_id (by omega)
      rw [ew]
      by_cases k2 : (opAt m op).Kind = 2
      · rw [if_pos k2, if_pos k2]
        have b0 : 1 ≤ (opAt m op).Win.KH * (opAt m op).Win.KW * (aAt m op).C := by
          have := Int.mul_le_mul a0 sB.2.2.1.1 (by omega) (by omega); omega
        have b2 : (opAt m op).Win.KH * (opAt m op).Win.KW * (aAt m op).C ≤ 32 * 32 * 1024 := Int.mul_le_mul a2 sB.2.2.1.2 (by omega) (by omega)
        exact ⟨w64_id (by omega), by rw [show w64 _ = _ from w64_id (by omega)]; exact b0⟩
      · rw [if_neg k2, if_neg k2]; exact ⟨rfl, a0⟩
  have hl512 : lenAt m op ≤ 512 := by rw [el] at p7; simpa using p7
  refine ⟨⟨by rw [hS]; exact hk, by rw [hS]; exact sA, by rw [hS]; dsimp only; rw [e2]; exact sO, by rw [hS]; exact ⟨hlen.2, hl512⟩, ?_, ?_, ?_, ?_, ?_, ?_, ?_, ?_, ?_, by rw [hS]; exact p3, by rw [hS]; exact p10, by rw [hS]; exact p9⟩, ⟨o1, o2⟩, by rw [hS]; rfl, he, hS⟩
  · intro k; rw [hS] at k ⊢; dsimp only at k ⊢; rw [hlen.1, if_pos k]
  · intro k; rw [hS] at k ⊢; dsimp only at k ⊢; rw [hlen.1, if_neg (by omega), if_pos k]
  · intro k; rw [hS] at k ⊢; dsimp only at k ⊢; rw [hlen.1, if_neg (by omega), if_neg (by omega)]
  · intro k
    rw [hS] at k ⊢; dsimp only at k ⊢
    refine ⟨(hwin k).1, (hwin k).2, ?_, ?_⟩ <;> rw [e2, eS, if_neg k] <;> split <;> rfl
  · intro k; rw [hS] at k ⊢; dsimp only at k ⊢; rw [e2, eS, if_pos k]
  · intro k; rw [hS] at k ⊢; dsimp only at k ⊢; rw [e2, eS, if_neg (by omega), if_pos k]
  · intro k; rw [hS] at k ⊢; dsimp only at k ⊢; rw [e2, eS, if_neg (by omega), if_neg (by omega)]
  · intro k
    rw [hS] at k ⊢; dsimp only at k ⊢
    have k4 : ((opAt m op).Kind == 4) = false := by simpa using k
    rw [k4, el] at p8
    simp only [Bool.not_false, cond_true, List.length_map] at p8
    have hb : 0 ≤ (mkS (opAt m op) (aAt m op)).C * lenAt m op := Int.mul_nonneg (by omega) (by omega)
    have hb2 : (mkS (opAt m op) (aAt m op)).C * lenAt m op ≤ 1024 * 512 := Int.mul_le_mul sO'.2.2.1.2 hl512 (by omega) (by omega)
    rw [show w64 _ = _ from w64_id (by omega)] at p8
    cases hq : ((opAt m op).Weights.length : Int) != (mkS (opAt m op) (aAt m op)).C * lenAt m op with
    | true => rw [hq] at p8; simp at p8
    | false => rw [e2]; simpa using hq
  · intro k
    rw [hS] at k ⊢; dsimp only at k ⊢
    have k4 : ((opAt m op).Kind == 4) = false := by simpa using k
    rw [k4, el] at p8
    simp only [Bool.not_false, cond_true, List.length_map] at p8
    cases hq : ((opAt m op).Weights.length : Int) != w64 ((mkS (opAt m op) (aAt m op)).C * lenAt m op) with
    | true => rw [hq] at p8; simp at p8
    | false => rw [hq] at p8; rw [e2]; simpa using p8
end Go.AM
end
section
open Go Go.AM Go.Proofs
set_option maxRecDepth 10000
set_option linter.unusedVariables false
set_option linter.unusedSimpArgs false
namespace Go.AM
/-- no taps -/
def tapsBad (s : Shape) (w : Window) (at_ : Int) : Bool := bif bif outE s w != 0 then true else decide (at_ < 0) then true else decide (at_ ≥ w64 (outH s w * outW s w))
def tapsTop (s : Shape) (w : Window) (at_ : Int) : Int := w64 (w64 (w64 (at_.tdiv (outW s w)) * w.SH) - w.Top)
def tapsLeft (s : Shape) (w : Window) (at_ : Int) : Int := w64 (w64 (at_.tmod (outW s w) * w.SW) - w.Left)
theorem taps_ne {s : Shape} {w : Window} {at_ : Int} (h : tapsBad s w at_ = false) : outW s w ≠ 0 := by
  intro h0
  simp only [tapsBad, h0, w64, Int.mul_zero] at h
  simp [IntKind.wrap_i64] at h
  omega
theorem window_Taps_no (s : Shape) (w : Window) (at_ : Int) (hc31 : tapsBad s w at_ = true) : Ok Try.prog 93 [.agg (shapeC s), .agg (windowC w), .int .i64 at_] (.fn 106 [] []) := by
  refine fn_ok Tb_ok (fn := Try.f93) Try.func93 rfl rfl (e := [(0, _), (1, _), (2, _)]) rfl (by decide) rfl ?_
  refine zs ?_
  refine zR ?_
  refine zbx [.int _ _, .int _ _, .int _ _] 3 ?_
  refine zbx [.int _ _, .int _ _, .int _ _, .int _ _, .int _ _, .int _ _, .int _ _, .int _ _] 8 ?_
  refine L_v Tb_ok (v := .nilf) (av rfl ⟨trivial, trivial⟩) rfl ?_
  refine zn ?_
  refine zs ?_
  refine zR ?_
  refine zLG [.int _ _, .int _ _, .int _ _] ?_
  refine zLG [.int _ _, .int _ _, .int _ _, .int _ _, .int _ _, .int _ _, .int _ _, .int _ _] ?_
  refine zLc (window_Out s w) ?_
  refine zLT [_, _, _] ?_
  refine zLI ?_
  refine zLI ?_
  refine zLI ?_
  refine zLI ?_
  refine zLI ?_
  refine zLI ?_
  refine zn ?_
  refine zs ?_
  refine zs ?_
  refine zR ?_
  refine zLI ?_
  refine zLB ?_
  refine zLB ?_
  refine zgLI ?_
  refine zgLB ?_
  refine zpLB ?_
  refine zLB ?_
  refine zgLI ?_
  refine zgLI ?_
  refine zgLI ?_
  refine zgLI ?_
  refine zgLB ?_
  refine zpLB ?_
  refine zn ?_
  refine W_cond_t (b := _) rfl (by exact hc31) ?_
  refine zs ?_
  refine zR ?_
  refine L_v Tb_ok (v := .fn _ [] []) (av rfl ⟨trivial, trivial⟩) rfl ?_
  refine zn ?_
  refine zt ?_
  refine ends (l := [.fn _ [] []]) (q := .fn _ [] []) (.inr rfl) rfl ⟨trivial, trivial⟩ rfl rfl ?_
  rfl
theorem window_Taps_yes (s : Shape) (w : Window) (at_ : Int) (hc31 : tapsBad s w at_ = false) : Ok Try.prog 93 [.agg (shapeC s), .agg (windowC w), .int .i64 at_] (.fn 107 [] [.rptr (windowC w), .rptr [.int .i64 (tapsTop s w at_)], .rptr [.int .i64 (tapsLeft s w at_)], .rptr (shapeC s)]) := by
  refine fn_ok Tb_ok (fn := Try.f93) Try.func93 rfl rfl (e := [(0, _), (1, _), (2, _)]) rfl (by decide) rfl ?_
  refine zs ?_
  refine zR ?_
  refine zbx [.int _ _, .int _ _, .int _ _] 3 ?_
  refine zbx [.int _ _, .int _ _, .int _ _, .int _ _, .int _ _, .int _ _, .int _ _, .int _ _] 8 ?_
  refine L_v Tb_ok (v := .nilf) (av rfl ⟨trivial, trivial⟩) rfl ?_
  refine zn ?_
  refine zs ?_
  refine zR ?_
  refine zLG [.int _ _, .int _ _, .int _ _] ?_
  refine zLG [.int _ _, .int _ _, .int _ _, .int _ _, .int _ _, .int _ _, .int _ _, .int _ _] ?_
  refine zLc (window_Out s w) ?_
  refine zLT [_, _, _] ?_
  refine zLI ?_
  refine zLI ?_
  refine zLI ?_
  refine zLI ?_
  refine zLI ?_
  refine zLI ?_
  refine zn ?_
  refine zs ?_
  refine zs ?_
  refine zR ?_
  refine zLI ?_
  refine zLB ?_
  refine zLB ?_
  refine zgLI ?_
  refine zgLB ?_
  refine zpLB ?_
  refine zLB ?_
  refine zgLI ?_
  refine zgLI ?_
  refine zgLI ?_
  refine zgLI ?_
  refine zgLB ?_
  refine zpLB ?_
  refine zn ?_
  refine W_cond_f (b := _) rfl (by exact hc31) ?_
  refine zk ?_
  refine zs ?_
  refine W_drawF (fun e => []) 18 [[18, 19, 20, 21], [19, 18, 20, 21]] Tb_mixed rfl (by decide) (by kernel_rfl) ?_
  refine zSI ?_
  refine zSI ?_
  refine S_v Tb_ok (v := .int _ _) (av rfl ⟨trivial, (by exact taps_ne hc31)⟩) rfl ?_
  refine zSP ?_
  refine zSI ?_
  refine zSI ?_
  refine zSP ?_
  refine zSI ?_
  refine zSI ?_
  refine zSI ?_
  refine zSI ?_
  refine S_v Tb_ok (v := .int _ _) (av rfl ⟨trivial, (by exact taps_ne hc31)⟩) rfl ?_
  refine zSP ?_
  refine zSI ?_
  refine zSI ?_
  refine zSP ?_
  refine zSI ?_
  refine zSI ?_
  refine S_nil ?_
  refine TT_two ?_ ?_
  · refine TT_alloc Tb_ok (OSub_forget _ _) rfl (z := [.int .i64 0]) (n := 1) rfl rfl rfl rfl rfl rfl (fun ht1 => ?_)
    refine TT_alloc Tb_ok ht1 rfl (z := [.int .i64 0]) (n := 1) rfl rfl rfl rfl rfl rfl (fun ht2 => ?_)
    refine TT_store Tb_ok ht2 rfl (v := .int _ _) (cs := [_]) (es' := [[_]]) rfl rfl rfl rfl rfl rfl rfl rfl rfl rfl rfl ⟨trivial, trivial⟩ (fun ht3 => ?_)
    refine TT_store Tb_ok ht3 rfl (v := .int _ _) (cs := [_]) (es' := [[_]]) rfl rfl rfl rfl rfl rfl rfl rfl rfl rfl rfl ⟨trivial, trivial⟩ (fun ht4 => ?_)
    refine TT_nil ?_
    try clear ht4
    try clear ht3
    try clear ht2
    try clear ht1
    refine zs ?_
    refine zR ?_
    refine L_freezeP (t := 4) (c' := _) rfl rfl rfl rfl ?_
    refine L_freezeP (t := 10) (c' := _) rfl rfl rfl rfl ?_
    refine L_freezeP (t := 11) (c' := _) rfl rfl rfl rfl ?_
    refine L_freezeP (t := 3) (c' := _) rfl rfl rfl rfl ?_
    refine zLF ?_
    refine zLF ?_
    refine zn ?_
    refine zt ?_
    refine ends (l := [.fn _ [] [_, _, _, _]]) (q := .fn _ [] [_, _, _, _]) (.inr rfl) rfl ⟨trivial, trivial⟩ rfl rfl ?_
    rfl
  · refine TT_alloc Tb_ok (OSub_forget _ _) rfl (z := [.int .i64 0]) (n := 1) rfl rfl rfl rfl rfl rfl (fun ht5 => ?_)
    refine TT_alloc Tb_ok ht5 rfl (z := [.int .i64 0]) (n := 1) rfl rfl rfl rfl rfl rfl (fun ht6 => ?_)
    refine TT_store Tb_ok ht6 rfl (v := .int _ _) (cs := [_]) (es' := [[_]]) rfl rfl rfl rfl rfl rfl rfl rfl rfl rfl rfl ⟨trivial, trivial⟩ (fun ht7 => ?_)
    refine TT_store Tb_ok ht7 rfl (v := .int _ _) (cs := [_]) (es' := [[_]]) rfl rfl rfl rfl rfl rfl rfl rfl rfl rfl rfl ⟨trivial, trivial⟩ (fun ht8 => ?_)
    refine TT_nil ?_
    try clear ht8
    try clear ht7
    try clear ht6
    try clear ht5
    refine zs ?_
    refine zR ?_
    refine L_freezeP (t := 4) (c' := _) rfl rfl rfl rfl ?_
    refine L_freezeP (t := 10) (c' := _) rfl rfl rfl rfl ?_
    refine L_freezeP (t := 11) (c' := _) rfl rfl rfl rfl ?_
    refine L_freezeP (t := 3) (c' := _) rfl rfl rfl rfl ?_
    refine zLF ?_
    refine zLF ?_
    refine zn ?_
    refine zt ?_
    refine ends (l := [.fn _ [] [_, _, _, _]]) (q := .fn _ [] [_, _, _, _]) (.inr rfl) rfl ⟨trivial, trivial⟩ rfl rfl ?_
    rfl
end Go.AM
end
