/-
  Read and Differences return what the definitions specify: the pure statement.
-/
import Derived.Test.YticmghpnbjhhnaaMeta
import Derived.Test.YticmghpnbjhhnaaM22
namespace Go.Proofs.Yticmghpnbjhhnaa.Pure
open Go.RowKit Go.Proofs.Yticmghpnbjhhnaa.M Go.Proofs.YticmghpnbjhhnaaW.PrintWords Go.Proofs.Yticmghpnbjhhnaa.Kit Go.Proofs.Yticmghpnbjhhnaa.Alloc Go.Proofs.Yticmghpnbjhhnaa.Meta
set_option linter.unusedVariables false

/-- A block can be read at an address. -/
def rdbl (li : List ByteArray) (a : Int) : Bool := decide (0 ≤ a ∧ a < (li.length : Int) ∧ ((rdOf ByteArray.empty li a).size : Int) = 2048)
def atS (li : List ByteArray) (a : Int) : ByteArray × Bool := if rdbl li a then (rdOf ByteArray.empty li a, true) else (⟨#[]⟩, false)
theorem at_is (li : List ByteArray) (a : Int) : metadata_at.f li a = some (atS li a) := by
  unfold metadata_at.f atS rdbl
  by_cases c1 : a < 0
  · rw [if_pos c1, if_neg (by simp; omega)]
  · rw [if_neg c1]
    by_cases c2 : a ≥ (li.length : Int)
    · rw [if_pos c2, if_neg (by simp; omega)]
    · rw [if_neg c2, if_pos (by omega), if_pos (by omega)]
      by_cases c3 : ((rdOf ByteArray.empty li a).size : Int) = 2048
      · rw [if_pos c3, if_pos (by rw [decide_eq_true_eq]; exact ⟨by omega, by omega, c3⟩)]
      · rw [if_neg c3, if_neg (by rw [decide_eq_true_eq]; exact fun h => c3 h.2.2)]
theorem readable_is (li : List ByteArray) (a : Int) : masterdiscref40_Readable.f li a = some (rdbl li a) := by
  unfold masterdiscref40_Readable.f rdbl
  by_cases c1 : a ≥ 0
  · rw [if_pos c1]
    by_cases c2 : a < (li.length : Int)
    · rw [if_pos c2, if_pos (by omega)]
      congr 1
      rw [Bool.eq_iff_iff, beq_iff_eq, decide_eq_true_eq]
      exact ⟨fun h => ⟨by omega, c2, h⟩, fun h => h.2.2⟩
    · rw [if_neg c2]
      congr 1
      symm
      rw [decide_eq_false_iff_not]
      omega
  · rw [if_neg c1]
    congr 1
    symm
    rw [decide_eq_false_iff_not]
    omega
theorem rdbl_range {li : List ByteArray} {a : Int} (h : rdbl li a = true) : 0 ≤ a ∧ a < (li.length : Int) := by
  unfold rdbl at h
  rw [decide_eq_true_eq] at h
  exact ⟨h.1, h.2.1⟩

theorem image_some (rest : List ByteArray) : ∀ (pre : List ByteArray) (k : Nat), rest.length < k → (pre ++ rest).length ≤ 4611686018427387904 → ∃ b, masterdiscref38_Image.l0 k (pre ++ rest) 400 (pre.length : Int) = some b := by
  induction rest with
  | nil =>
    intro pre k hk _
    obtain ⟨k, rfl⟩ : ∃ m, k = m + 1 := ⟨k - 1, by omega⟩
    simp only [masterdiscref38_Image.l0]
    rw [if_neg (not_lt_end pre)]
    exact ⟨_, rfl⟩
  | cons x rest ih =>
    intro pre k hk hb
    obtain ⟨k, rfl⟩ : ∃ m, k = m + 1 := ⟨k - 1, by omega⟩
    simp only [masterdiscref38_Image.l0]
    rw [if_pos (lt_mid pre rest x), if_pos (by omega), next pre rest x hb]
    obtain ⟨b, h⟩ := ih (pre ++ [x]) k (by simp at hk; omega) (by simpa using hb)
    rw [← push] at h
    rw [h]
    repeat' split
    all_goals exact ⟨_, rfl⟩

theorem eqInt_loop (rest : List Int) : ∀ (pre : List Int) (k : Nat), rest.length < k → (pre ++ rest).length ≤ 4611686018427387904 → slices_Equal_int.l0 k (pre ++ rest) (pre ++ rest) ((pre ++ rest).length : Int) (pre.length : Int) = some true := by
  induction rest with
  | nil =>
    intro pre k hk _
    obtain ⟨k, rfl⟩ : ∃ m, k = m + 1 := ⟨k - 1, by omega⟩
    simp only [slices_Equal_int.l0]
    rw [if_neg (not_lt_end pre)]
  | cons x rest ih =>
    intro pre k hk hb
    obtain ⟨k, rfl⟩ : ∃ m, k = m + 1 := ⟨k - 1, by omega⟩
    simp only [slices_Equal_int.l0]
    rw [if_pos (lt_mid pre rest x), if_pos (by omega), if_pos (lt_mid pre rest x), if_pos (lt_mid pre rest x), next pre rest x hb, if_pos trivial]
    have := ih (pre ++ [x]) k (by simp at hk; omega) (by simpa using hb)
    rw [← push] at this
    exact this
theorem eqInt_same (l : List Int) (hb : l.length ≤ 4611686018427387904) (k : Nat) (hk : l.length < k) : slices_Equal_int.f k l l = some true := by
  unfold slices_Equal_int.f
  rw [if_pos rfl]
  have := eqInt_loop l [] k hk (by simpa using hb)
  simpa using this

theorem read1_is (li : List ByteArray) (l0 : List S96) (a1 a2 : Int) (l3 : List Int) (l4 : List S98) (l5 l6 : List X) (hs : 0 ≤ a1 ∧ a1 ≤ 1099511627776) (l : List X) (hl : l.length ≤ 70) (b : Int) (h0 : -9223372036854775808 ≤ b) (h1 : b ≤ 9223372036854775807) (k : Nat) (hk : 310 < k) :
    metadata_Read_1.f k li l0 a1 a2 l3 l4 l5 l6 b l = some ((atS li (locn a1 a2 l b)).1, locn a1 a2 l b, (atS li (locn a1 a2 l b)).2) := by
  unfold metadata_Read_1.f
  rw [(location_is l0 a1 a2 l3 l4 l5 l6 l b hs (by omega) h0 h1 k hk).1]
  simp only [Option.bind_some]
  rw [at_is]
  rfl

theorem read_same (li : List ByteArray) (l0 : List S96) (a1 a2 : Int) (l3 : List Int) (l4 : List S98) (l5 l6 : List X) (hs : 0 ≤ a1 ∧ a1 ≤ 1099511627776) (h5 : l5.length ≤ 70) (h6 : l6.length ≤ 70) (b : Int) (h0 : -9223372036854775808 ≤ b) (h1 : b ≤ 9223372036854775807) (k : Nat) (hk : 310 < k) :
    ∃ r, metadata_Read.f k li l0 a1 a2 l3 l4 l5 l6 b = some r ∧ masterdiscref40_Read.f k li l0 a1 a2 l3 l4 l5 l6 b = some r := by
  unfold metadata_Read.f masterdiscref40_Read.f
  rw [(locations_is l0 a1 a2 l3 l4 l5 l6 b hs (by omega) (by omega) h0 h1 k hk).1, (locations_is l0 a1 a2 l3 l4 l5 l6 b hs (by omega) (by omega) h0 h1 k hk).2]
  simp only [Option.bind_some]
  rw [read1_is li l0 a1 a2 l3 l4 l5 l6 hs l5 h5 b h0 h1 k hk, read1_is li l0 a1 a2 l3 l4 l5 l6 hs l6 h6 b h0 h1 k hk]
  by_cases ce : (locsS a1 a2 l5 l6 b).2.2 = 0
  · have e : locsS a1 a2 l5 l6 b = (locn a1 a2 l5 b, locn a1 a2 l6 b, 0) := by
      unfold locsS at ce ⊢
      by_cases q1 : locn a1 a2 l5 b = -1
      · rw [if_pos q1] at ce ⊢
        by_cases q2 : locn a1 a2 l6 b = -1
        · rw [if_pos q2] at ce; simp at ce
        · rw [if_neg q2]
      · rw [if_neg q1]
    rw [if_pos ce, if_pos ce, e]
    simp only [Option.bind_some]
    rw [readable_is, readable_is]
    simp only [Option.bind_some, atS]
    by_cases r1 : rdbl li (locn a1 a2 l5 b) = true
    · have hr := rdbl_range r1
      simp only [r1, if_true]
      rw [if_pos hr.1, if_pos hr.2]
      exact ⟨_, rfl, rfl⟩
    · have r1' : rdbl li (locn a1 a2 l5 b) = false := by simpa using r1
      simp only [r1', if_false, Bool.false_eq_true]
      by_cases r2 : rdbl li (locn a1 a2 l6 b) = true
      · have hr := rdbl_range r2
        simp only [r2, if_true]
        rw [if_pos hr.1, if_pos hr.2]
        exact ⟨_, rfl, rfl⟩
      · have r2' : rdbl li (locn a1 a2 l6 b) = false := by simpa using r2
        simp only [r2', if_false, Bool.false_eq_true]
        exact ⟨_, rfl, rfl⟩
  · rw [if_neg ce, if_neg ce]
    exact ⟨_, rfl, rfl⟩

/-- Are the two copies of a block not both readable and equal? -/
def bad (li : List ByteArray) (a1 a2 : Int) (l5 l6 : List X) (i : Int) : Bool := !(rdbl li (locn a1 a2 l5 i) && (rdbl li (locn a1 a2 l6 i) && ((rdOf ByteArray.empty li (locn a1 a2 l5 i)).toList == (rdOf ByteArray.empty li (locn a1 a2 l6 i)).toList)))
def diffS (li : List ByteArray) (a1 a2 : Int) (l5 l6 : List X) : Nat → Int → List Int → List Int
  | 0, _, acc => acc
  | m + 1, i, acc => diffS li a1 a2 l5 l6 m (i + 1) (if bad li a1 a2 l5 l6 i then acc ++ [i] else acc)
theorem diffS_len (li : List ByteArray) (a1 a2 : Int) (l5 l6 : List X) (m : Nat) : ∀ i acc, (diffS li a1 a2 l5 l6 m i acc).length ≤ acc.length + m := by
  induction m with
  | zero => intro i acc; simp [diffS]
  | succ m ih =>
    intro i acc
    simp only [diffS]
    by_cases h : bad li a1 a2 l5 l6 i = true
    · rw [if_pos h]
      have := ih (i + 1) (acc ++ [i])
      simp at this
      omega
    · rw [if_neg h]
      have := ih (i + 1) acc
      omega

theorem diff_loop (li : List ByteArray) (l0 : List S96) (a1 a2 : Int) (l3 : List Int) (l4 : List S98) (l5 l6 : List X) (hs : 0 ≤ a1 ∧ a1 ≤ 1099511627776) (h5 : l5.length ≤ 70) (h6 : l6.length ≤ 70) (n : Int) (hn : n ≤ 4096) (m : Nat) : ∀ (i : Int) (acc : List Int) (k : Nat), 0 ≤ i → n - i = (m : Int) → acc.length + m ≤ 8192 → 2 * m + 400 < k →
    metadata_Differences.l0 k li acc n i l0 a1 a2 l3 l4 l5 l6 = some (diffS li a1 a2 l5 l6 m i acc) := by
  induction m with
  | zero =>
    intro i acc k hi hm _ hk
    obtain ⟨k, rfl⟩ : ∃ q, k = q + 1 := ⟨k - 1, by omega⟩
    simp only [metadata_Differences.l0]
    rw [if_neg (by omega)]
    rfl
  | succ m ih =>
    intro i acc k hi hm hb hk
    obtain ⟨k, rfl⟩ : ∃ q, k = q + 2 := ⟨k - 2, by omega⟩
    simp only [metadata_Differences.l0, metadata_Differences.j1]
    rw [if_pos (by omega), (location_is l0 a1 a2 l3 l4 l5 l6 l5 i hs (by omega) (by omega) (by omega) (k + 1) (by omega)).1, (location_is l0 a1 a2 l3 l4 l5 l6 l6 i hs (by omega) (by omega) (by omega) (k + 1) (by omega)).1]
    simp only [Option.bind_some, at_is]
    have hacc : acc.length < 17592186044416 := by omega
    rw [wr (n := i + 1) (by omega)]
    simp only [if_pos hacc]
    have h1 := ih (i + 1) acc k (by omega) (by omega) (by omega) (by omega)
    have h2 := ih (i + 1) (acc ++ [i]) k (by omega) (by omega) (by simp; omega) (by omega)
    rw [h1, h2]
    simp only [diffS, atS, bad]
    by_cases e : (rdOf ByteArray.empty li (locn a1 a2 l5 i)).toList = (rdOf ByteArray.empty li (locn a1 a2 l6 i)).toList <;> by_cases r1 : rdbl li (locn a1 a2 l5 i) = true <;> by_cases r2 : rdbl li (locn a1 a2 l6 i) = true <;> simp [r1, r2, e]

theorem refDiff_loop (li : List ByteArray) (l0 : List S96) (a1 a2 : Int) (l3 : List Int) (l4 : List S98) (l5 l6 : List X) (hs : 0 ≤ a1 ∧ a1 ≤ 1099511627776) (h5 : l5.length ≤ 70) (h6 : l6.length ≤ 70) (n : Int) (hn : n = mx (sizeS l5) (sizeS l6)) (m : Nat) : ∀ (i : Int) (acc : List Int) (k : Nat), 0 ≤ i → mn n 4096 - i = (m : Int) → acc.length + m ≤ 8192 → 2 * m + 400 < k →
    masterdiscref40_Differences.l0 k li acc i l0 a1 a2 l3 l4 l5 l6 = some (diffS li a1 a2 l5 l6 m i acc) := by
  have hm4 : mn n 4096 ≤ 4096 := by unfold mn; split <;> omega
  induction m with
  | zero =>
    intro i acc k hi hm _ hk
    obtain ⟨k, rfl⟩ : ∃ q, k = q + 1 := ⟨k - 1, by omega⟩
    simp only [masterdiscref40_Differences.l0]
    rw [(size_is l0 a1 a2 l3 l4 l5 l6 h5 h6 k (by omega)).2, ← hn]
    simp only [Option.bind_some]
    rw [if_neg (by omega)]
    rfl
  | succ m ih =>
    intro i acc k hi hm hb hk
    obtain ⟨k, rfl⟩ : ∃ q, k = q + 2 := ⟨k - 2, by omega⟩
    simp only [masterdiscref40_Differences.l0, masterdiscref40_Differences.j1]
    rw [(size_is l0 a1 a2 l3 l4 l5 l6 h5 h6 (k + 1) (by omega)).2, ← hn]
    simp only [Option.bind_some]
    rw [if_pos (by omega), (location_is l0 a1 a2 l3 l4 l5 l6 l5 i hs (by omega) (by omega) (by omega) (k + 1) (by omega)).2, (location_is l0 a1 a2 l3 l4 l5 l6 l6 i hs (by omega) (by omega) (by omega) (k + 1) (by omega)).2]
    simp only [Option.bind_some, readable_is]
    have hacc : acc.length < 17592186044416 := by omega
    rw [wr (n := i + 1) (by omega)]
    simp only [if_pos hacc]
    have h1 := ih (i + 1) acc k (by omega) (by omega) (by omega) (by omega)
    have h2 := ih (i + 1) (acc ++ [i]) k (by omega) (by omega) (by simp; omega) (by omega)
    rw [h1, h2]
    simp only [diffS, bad]
    by_cases r1 : rdbl li (locn a1 a2 l5 i) = true
    · have q1 := rdbl_range r1
      by_cases r2 : rdbl li (locn a1 a2 l6 i) = true
      · have q2 := rdbl_range r2
        by_cases e : (rdOf ByteArray.empty li (locn a1 a2 l5 i)).toList = (rdOf ByteArray.empty li (locn a1 a2 l6 i)).toList <;> simp [r1, r2, e, q1.1, q1.2, q2.1, q2.2]
      · simp [r1, r2]
    · simp [r1]

theorem MetadataReads : masterdisclaw40_MetadataReads.Pure := by
  intro li m b hli hm hb
  have hb' := wf64 hb
  obtain ⟨k, hk⟩ : ∃ k, k = li.length + 20000 := ⟨_, rfl⟩
  refine ⟨k + 1, ?_⟩
  unfold masterdisclaw40_MetadataReads.f
  rw [awake_is (k + 1) (by omega)]
  simp only [Option.bind_some, if_true, masterdisclaw40_MetadataReads.j0]
  rcases few_is m.f0 m.f1.f0 m.f1.f1 m.f2 m.f3 m.f4 m.f5 (k + 1) (by omega) with h | ⟨h, h5, h6, hs0, hs1, _⟩
  · rw [h]
    simp
  · rw [h]
    simp only [Option.bind_some, if_true]
    have hi := image_some li [] (k + 1) (by omega) (by simp; omega)
    simp only [List.nil_append, List.length_nil] at hi
    obtain ⟨bi, hi⟩ := hi
    have hI : masterdiscref38_Image.f (k + 1) li 400 = some bi := hi
    rw [hI]
    simp only [Option.bind_some]
    cases bi with
    | false => simp
    | true =>
      rw [if_neg (by simp)]
      obtain ⟨r, hr1, hr2⟩ := read_same li m.f0 m.f1.f0 m.f1.f1 m.f2 m.f3 m.f4 m.f5 ⟨hs0, hs1⟩ h5 h6 b hb'.1 hb'.2 k (by omega)
      rw [hr1, hr2]
      simp only [Option.bind_some, if_true]
      have hS := size_is m.f0 m.f1.f0 m.f1.f1 m.f2 m.f3 m.f4 m.f5 h5 h6 k (by omega)
      have hb5 := sizeS_bound m.f4
      have hb6 := sizeS_bound m.f5
      have hmn : 0 ≤ mn (mx (sizeS m.f4) (sizeS m.f5)) 4096 ∧ mn (mx (sizeS m.f4) (sizeS m.f5)) 4096 ≤ 4096 := by unfold mn mx; split <;> split <;> omega
      obtain ⟨q, hq⟩ : ∃ q : Nat, mn (mx (sizeS m.f4) (sizeS m.f5)) 4096 - 0 = (q : Int) := ⟨(mn (mx (sizeS m.f4) (sizeS m.f5)) 4096).toNat, by omega⟩
      have d1 := diff_loop li m.f0 m.f1.f0 m.f1.f1 m.f2 m.f3 m.f4 m.f5 ⟨hs0, hs1⟩ h5 h6 _ hmn.2 q 0 [] k (by omega) hq (by simp; omega) (by omega)
      have d2 := refDiff_loop li m.f0 m.f1.f0 m.f1.f1 m.f2 m.f3 m.f4 m.f5 ⟨hs0, hs1⟩ h5 h6 _ rfl q 0 [] k (by omega) hq (by simp; omega) (by omega)
      unfold metadata_Differences.f masterdiscref40_Differences.f
      rw [hS.1]
      simp only [Option.bind_some]
      rw [d1, d2]
      simp only [Option.bind_some]
      have hl := diffS_len li m.f1.f0 m.f1.f1 m.f4 m.f5 q 0 []
      simp only [List.length_nil] at hl
      rw [eqInt_same _ (by omega) k (by omega)]
      rfl
end Go.Proofs.Yticmghpnbjhhnaa.Pure
