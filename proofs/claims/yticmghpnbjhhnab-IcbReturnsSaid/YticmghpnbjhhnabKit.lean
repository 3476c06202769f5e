/-
  Small lemmas on wrapped sums and on lists read by an index, for the pure statements.
-/
import Derived.Test.YticmghpnbjhhnabVMore
namespace Go.Proofs.Yticmghpnbjhhnab.Kit
open Go.RowKit Go.Proofs.YticmghpnbjhhnabW.PrintWords
set_option linter.unusedVariables false

theorem wr {n : Int} (h : -9223372036854775808 ≤ n ∧ n ≤ 9223372036854775807) : wrap64 n = n := by unfold wrap64; omega
theorem wf64 {n : Int} (h : (Lit.int .i64 n).wf = true) : -9223372036854775808 ≤ n ∧ n ≤ 9223372036854775807 := by
  simp [Lit.wf, IntKind.min, IntKind.max, IntKind.signed, IntKind.bits] at h; omega
theorem getD_mid {α : Type} (pre : List α) (x z : α) (rest : List α) : (pre ++ x :: rest).getD ((pre.length : Int)).toNat z = x := by simp
theorem next {α : Type} (pre rest : List α) (x : α) (h : (pre ++ x :: rest).length ≤ 4611686018427387904) : wrap64 ((pre.length : Int) + 1) = ((pre ++ [x]).length : Int) := by
  simp at h
  rw [wr (by omega)]
  simp
theorem push {α : Type} (pre rest : List α) (x : α) : pre ++ x :: rest = (pre ++ [x]) ++ rest := by simp
theorem lt_mid {α : Type} (pre rest : List α) (x : α) : (pre.length : Int) < ((pre ++ x :: rest).length : Int) := by simp; omega
theorem not_lt_end {α : Type} (pre : List α) : ¬ (pre.length : Int) < ((pre ++ []).length : Int) := by simp

/-- More rounds, the same answer. -/
theorem ev_of {α : Type} {g : Nat → Option α} {r : α} (hg : ∀ k, LeO (g k) (g (k + 1))) (n : Nat) (h : ∀ k, n < k → g k = some r) : Ev g r := ⟨n + 1, fun k hk => h k (by omega)⟩
theorem ev_all {α : Type} {g : Nat → Option α} {r : α} (n : Nat) (h : ∀ k, n < k → g k = some r) : Ev g r := ⟨n + 1, fun k hk => h k (by omega)⟩
theorem ev_ex {α : Type} {g : Nat → Option α} {r : α} (h : Ev g r) : ∃ k, g k = some r := h.rounds
theorem ev_const {α : Type} {a : Option α} {r : α} (h : a = some r) : Ev (fun _ => a) r := ⟨0, fun _ _ => h⟩
theorem ev_if_pos {α : Type} {c : Prop} [Decidable c] {g f : Nat → Option α} {r : α} (hc : c) (h : Ev g r) : Ev (fun k => if c then g k else f k) r := by
  obtain ⟨n, h⟩ := h; exact ⟨n, fun k hk => by show (if c then g k else f k) = some r; rw [if_pos hc]; exact h k hk⟩
theorem ev_if_neg {α : Type} {c : Prop} [Decidable c] {g f : Nat → Option α} {r : α} (hc : ¬ c) (h : Ev f r) : Ev (fun k => if c then g k else f k) r := by
  obtain ⟨n, h⟩ := h; exact ⟨n, fun k hk => by show (if c then g k else f k) = some r; rw [if_neg hc]; exact h k hk⟩
theorem ev_bind {α β : Type} {g : Nat → Option α} {f : Nat → α → Option β} {a : α} {r : β} (h : Ev g a) (k : Ev (fun n => f n a) r) : Ev (fun n => (g n).bind (f n)) r := Ev.bind h k
theorem ev_step {α : Type} {g f : Nat → Option α} {r : α} (h : ∀ k, g (k + 1) = f k) (k : Ev f r) : Ev g r := Ev.step h k
end Go.Proofs.Yticmghpnbjhhnab.Kit
