/-
  How the arguments of a law are opened: a value that is read as a datum has a reading of the print's kinds (Kd), for whole numbers, bools, strings, slices and structs alike.
-/
import Derived.Test.YticmghpnbjhhnabVMore
import Derived.Deep.Slices
import Derived.ChangeSame
import Derived.SizedLaws
import Derived.Carry
namespace Go.Proofs.Yticmghpnbjhhnab.Open
open Go.ChangeShapes Go.WideShapes Go.Deep Go.RowKit Go.Proofs.YticmghpnbjhhnabW.PrintWords

/-- The bound on what one string or one slice takes. -/
abbrev reach : Nat := 140737488351232

/-- A datum of type t, read at w, has a reading of the kind d that meets good. -/
def Opens {α : Type} (P : Program) (w : World) (t : TypeId) (d : Kd α) (good : α → Prop) : Prop :=
  ∀ {H : Type} (enc : TypeId × Value → H) (base : Nat) (spare : Nat → Bool) (held : Bool) (fuel : Nat) (cs : List Value) (x : DataW H × List MemPlace),
    DataW.trod enc P w base spare held fuel t cs = some x → (x.1.weights P t).all (· ≤ reachBytes) = true → ∃ a : α, d.K w a cs ∧ good a

variable {P : Program} {w : World}

theorem opens_int {t : TypeId} {k : IntKind} (ht : P.underlying t = some (.int k)) : Opens P w t (Kd.int k) (fun n => (Lit.int k n).wf = true) := by
  intro H enc base spare held fuel cs x h _
  obtain ⟨n, rfl, _, hw⟩ := DataW.trod_int ht h
  exact ⟨n, rfl, hw⟩

theorem opens_bool {t : TypeId} (ht : P.underlying t = some .bool) : Opens P w t Kd.bool (fun _ => True) := by
  intro H enc base spare held fuel cs x h _
  obtain ⟨n, rfl, _⟩ := DataW.trod_bool ht h
  exact ⟨n, rfl, trivial⟩

theorem opens_string {t : TypeId} (ht : P.underlying t = some .string) : Opens P w t Kd.string (fun s => s.size ≤ reach) := by
  intro H enc base spare held fuel cs x h hw
  obtain ⟨s, rfl, rfl, hs⟩ := DataW.trod_string ht h
  refine ⟨s, rfl, ?_⟩
  have z : s.data.toList.length ≤ reachBytes := by simpa [DataW.weights] using hw
  exact z

theorem all_app {l m : List Nat} (h : (l ++ m).all (· ≤ reachBytes) = true) : l.all (· ≤ reachBytes) = true ∧ m.all (· ≤ reachBytes) = true := by
  simpa [List.all_append] using h

theorem weightsAll_get {H : Type} {e : TypeId} : ∀ (l : List (DataW H)) (i : Nat) (d : DataW H), (DataW.weightsAll P e l).all (· ≤ reachBytes) = true → l[i]? = some d → (d.weights P e).all (· ≤ reachBytes) = true
  | [], i, d, _, hi => by simp at hi
  | y :: r, 0, d, h, hi => by
    simp at hi
    subst hi
    simp only [DataW.weightsAll] at h
    exact (all_app h).1
  | y :: r, i + 1, d, h, hi => by
    simp only [DataW.weightsAll] at h
    exact weightsAll_get r i d (all_app h).2 (by simpa using hi)

theorem opens_slice {α : Type} {t e : TypeId} {d : Kd α} {good : α → Prop} {B : Nat} (ht : P.underlying t = some (.slice e)) (hc : P.cellsOf e = d.sz) (hB : P.bytesOf e = B) (hd : Opens P w e d good) :
    Opens P w t (Kd.slice e d) (fun l => l.length * B ≤ reach ∧ ∀ a ∈ l, good a) := by
  subst hB
  intro H enc base spare held fuel cs x h hw
  rcases open_slice ht h with ⟨rfl, rfl⟩ | ⟨a, len, cap, m, n, D, Pl, rfl, hb, hl, hm, hmm, rfl, hi⟩
  · exact ⟨[], ⟨none, 0, rfl, by simp, Kd.C_nil d w⟩, by simp, by simp⟩
  · have hlm : len ≤ m := by rw [hmm]; split <;> omega
    simp only [DataW.weights, ht] at hw
    have hw1 : ((List.range len).map D).length * P.bytesOf e + 0 ≤ reachBytes := by
      have z := (List.all_eq_true.1 hw _ (List.mem_cons_self ..))
      simp only [decide_eq_true_eq] at z
      refine Nat.le_trans ?_ z
      exact Nat.mul_le_mul_right _ (by omega)
    have hw2 : (DataW.weightsAll P e ((List.range len).map D)).all (· ≤ reachBytes) = true := by
      rw [List.all_cons, Bool.and_eq_true] at hw
      exact (all_app hw.2).1
    have hx : ∀ i, i < len → ∃ y : α, (∃ c, (∀ j u, c[j]? = some u → w.cell? (a.add (i * d.sz + j)) = some u) ∧ d.K w y c) ∧ good y := by
      intro i hil
      obtain ⟨cs', hcs, ht'⟩ := hi i (by omega)
      obtain ⟨y, hy, hg⟩ := hd enc base spare held n cs' _ ht' (weightsAll_get _ i _ hw2 (by simp [hil]))
      obtain ⟨_, hcl, hat⟩ := World.cells?_some hcs
      refine ⟨y, ⟨cs', fun j u hj => ?_, hy⟩, hg⟩
      have hjl : j < cs'.length := (List.getElem?_eq_some_iff.1 hj).1
      rw [← hc, ← Go.Deep.add_add, hat j (by omega), hj]
    have hx' : ∀ i : Fin len, ∃ y : α, (∃ c, (∀ j u, c[j]? = some u → w.cell? (a.add (i.1 * d.sz + j)) = some u) ∧ d.K w y c) ∧ good y := fun i => hx i.1 i.2
    have hf := fun i : Fin len => Classical.choose_spec (hx' i)
    refine ⟨List.ofFn (fun i => Classical.choose (hx' i)), ⟨some a, cap, ?_, ?_, ?_⟩, ?_, ?_⟩
    · simp
    · simpa using hl
    · refine ⟨by simp, by simp only [List.length_ofFn]; simp only [maxLen] at hm; omega, fun hp => ⟨a, rfl, fun j p hj => ?_⟩⟩
      obtain ⟨hjl, rfl⟩ := List.getElem?_eq_some_iff.1 hj
      have hjl' : j < len := by simpa using hjl
      obtain ⟨⟨c, hc1, hc2⟩, _⟩ := hf ⟨j, hjl'⟩
      refine ⟨c, d.K_len hc2, ?_, hc1⟩
      simpa using hc2
    · simp only [List.length_ofFn]
      have z : len * P.bytesOf e ≤ reachBytes := by simpa using hw1
      exact z
    · intro y hy
      obtain ⟨i, rfl⟩ := (List.mem_ofFn ..).1 hy
      exact (hf i).2
/-- The fields of a struct from the cell o on. -/
def OpensF {α : Type} (P : Program) (w : World) (fs : List Field) (o : Nat) (d : Kd α) (good : α → Prop) : Prop :=
  ∀ {H : Type} (enc : TypeId × Value → H) (base : Nat) (spare : Nat → Bool) (held : Bool) (fuel : Nat) (cs : List Value) (xs : List (DataW H × List MemPlace)), cs.length = o + d.sz → xs.length = fs.length →
    (∀ (i : Nat) (f : Field), fs[i]? = some f → DataW.trod enc P w base spare held fuel f.type ((cs.drop f.offset).take (P.cellsOf f.type)) = xs[i]?) →
    (DataW.weightsEach P (fs.map (·.type)) (xs.map (·.1))).all (· ≤ reachBytes) = true → ∃ a : α, d.K w a (cs.drop o) ∧ good a

theorem opensF_last {α : Type} {f : Field} {o : Nat} {d : Kd α} {good : α → Prop} (ho : f.offset = o) (hc : P.cellsOf f.type = d.sz) (hd : Opens P w f.type d good) : OpensF P w [f] o d good := by
  intro H enc base spare held fuel cs xs hl hx hf hw
  match xs, hx with
  | [y], _ =>
    have h0 := hf 0 f rfl
    rw [ho, hc] at h0
    have e : (cs.drop o).take d.sz = cs.drop o := List.take_of_length_le (by simp; omega)
    rw [e] at h0
    simp only [List.map_cons, List.map_nil, DataW.weightsEach, List.append_nil] at hw
    exact hd enc base spare held fuel _ y (by simpa using h0) hw

theorem opensF_cons {α β : Type} {f : Field} {fs : List Field} {o : Nat} {a : Kd α} {b : Kd β} {ga : α → Prop} {gb : β → Prop} (ho : f.offset = o) (hc : P.cellsOf f.type = a.sz) (hd : Opens P w f.type a ga) (hr : OpensF P w fs (o + a.sz) b gb) :
    OpensF P w (f :: fs) o (Kd.pair a b) (fun x => ga x.1 ∧ gb x.2) := by
  intro H enc base spare held fuel cs xs hl hx hf hw
  match xs, hx with
  | y :: ys, hx =>
    have h0 := hf 0 f rfl
    rw [ho, hc] at h0
    simp only [List.map_cons, DataW.weightsEach] at hw
    obtain ⟨x, hk, hg⟩ := hd enc base spare held fuel _ y (by simpa using h0) (all_app hw).1
    have hl' : cs.length = o + (a.sz + b.sz) := hl
    obtain ⟨z, hkz, hgz⟩ := hr enc base spare held fuel cs ys (by omega) (by simpa using hx) (fun i g hg => by have := hf (i + 1) g (by simpa using hg); simpa using this) (all_app hw).2
    refine ⟨(x, z), ⟨(cs.drop o).take a.sz, cs.drop (o + a.sz), ?_, hk, hkz⟩, hg, hgz⟩
    rw [← List.drop_drop, List.take_append_drop]

theorem opens_struct {α β : Type} {t : TypeId} {fs : Array Field} {d : Kd α} {good : α → Prop} (ht : P.underlying t = some (.struct fs)) (hc : P.cellsOf t = d.sz) (hr : OpensF P w fs.toList 0 d good) (f : β → α) (g : α → β) (hfg : ∀ a, f (g a) = a) :
    Opens P w t (Kd.iso d f) (fun x => good (f x)) := by
  intro H enc base spare held fuel cs x h hw
  obtain ⟨xs, n, _, rfl, hl, hx, hf⟩ := DataW.trod_struct ht h
  simp only [DataW.weights, ht] at hw
  obtain ⟨a, hk, hg⟩ := hr enc base spare held n cs xs (by omega) (by simpa using hx) (fun i f hi => hf i f (by simpa using hi)) hw
  refine ⟨g a, ?_, by show good (f (g a)); rw [hfg]; exact hg⟩
  show d.K w (f (g a)) cs
  rw [hfg]
  simpa using hk

/-- An argument: its value and its reading. -/
theorem open_arg {α H : Type} {enc : TypeId × Value → H} {base : Nat} {spare : Nat → Bool} {held : Bool} {t : TypeId} {d : Kd α} {good : α → Prop} {v : Value} {dt : DataW H} {p : List MemPlace} (hd : Opens P w t d good) (h : DataW.Trod enc P w base spare held t v dt p)
    (hw : (dt.weights P t).all (· ≤ reachBytes) = true) : ∃ a : α, d.K w a v.cells.toList ∧ good a := by
  obtain ⟨fuel, hf⟩ := h
  exact hd enc base spare held fuel _ _ hf hw

theorem weightsEach_get {H : Type} : ∀ {ts : List TypeId} {ds : List (DataW H)}, (DataW.weightsEach P ts ds).all (· ≤ reachBytes) = true → ∀ (j : Nat) (t : TypeId) (d : DataW H), ts[j]? = some t → ds[j]? = some d → (d.weights P t).all (· ≤ reachBytes) = true
  | [], _, _, j, t, d, ht, _ => by simp at ht
  | _ :: _, [], _, j, t, d, _, hd => by simp at hd
  | t :: ts, d :: ds, h, 0, t', d', ht, hd => by
    simp at ht hd
    subst ht hd
    simp only [DataW.weightsEach] at h
    exact (all_app h).1
  | t :: ts, d :: ds, h, j + 1, t', d', ht, hd => by
    simp only [DataW.weightsEach] at h
    exact weightsEach_get (all_app h).2 j t' d' (by simpa using ht) (by simpa using hd)

/-- A struct's value by its cells. -/
theorem agg_of {r : Reach} {b0 : Nat} {t : TypeId} {fs : Array Field} {v : Value} {l : List Value} (ht : P.underlying t = some (.struct fs)) (hv : Value.okWide P w r b0 t v) (h : v.cells.toList = l) : v = .agg l.toArray := by
  obtain ⟨cs, rfl, _⟩ := okWide_struct ht hv
  subst h
  simp [Value.cells]

/-- A slice's value by its cells. -/
theorem slice_of {r : Reach} {b0 : Nat} {t e : TypeId} {v u : Value} (ht : P.underlying t = some (.slice e)) (hv : Value.okWide P w r b0 t v) (h : v.cells.toList = [u]) : v = u := by
  obtain ⟨a, len, cap, rfl⟩ := okWide_slice ht hv
  simpa [Value.cells] using h

end Go.Proofs.Yticmghpnbjhhnab.Open
