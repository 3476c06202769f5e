/-
  What Join and Extents compute, on lists, and what the extents of some blocks look like.
-/
import Derived.Test.YticmghpnbjhhnaaAlloc0
import Derived.Test.YticmghpnbjhhnaaM5
import Derived.Test.YticmghpnbjhhnaaM6
namespace Go.Proofs.Yticmghpnbjhhnaa.Ext
open Go.RowKit Go.Proofs.Yticmghpnbjhhnaa.M Go.Proofs.YticmghpnbjhhnaaW.PrintWords Go.Proofs.Yticmghpnbjhhnaa.Kit Go.Proofs.Yticmghpnbjhhnaa.Alloc
set_option linter.unusedVariables false

/-- Two extents can be joined. -/
def joinsP (a b : X) : Prop := a.f0 = b.f0 ∧ a.f1 % 2048 = 0 ∧ a.f2.f0 + a.f1 / 2048 = b.f2.f0 ∧ a.f2.f1 = b.f2.f1 ∧ a.f1 + b.f1 ≤ 1073739776
instance (a b : X) : Decidable (joinsP a b) := by unfold joinsP; infer_instance
theorem joins_is {a b : X} (ha : okX a) (hb : okX b) : allocation_joins.f a.f0 a.f1 a.f2.f0 a.f2.f1 b.f0 b.f1 b.f2.f0 b.f2.f1 = some (decide (joinsP a b)) := by
  obtain ⟨a1, a2, a3, a4, a5, a6, a7, a8⟩ := ha
  obtain ⟨b1, b2, b3, b4, b5, b6, b7, b8⟩ := hb
  unfold allocation_joins.f
  rw [Int.tmod_eq_emod_of_nonneg (by omega), Int.tdiv_eq_ediv_of_nonneg (by omega), wr (n := a.f1 / 2048) (by omega), wr (n := a.f2.f0 + a.f1 / 2048) (by omega), wr (n := a.f1 + b.f1) (by omega)]
  by_cases c1 : a.f0 = b.f0
  · rw [if_pos c1]
    by_cases c2 : a.f1 % 2048 = 0
    · rw [if_pos c2]
      by_cases c3 : a.f2.f0 + a.f1 / 2048 = b.f2.f0
      · by_cases c4 : a.f2.f1 = b.f2.f1
        · rw [if_pos (by simp [c3, c4])]
          congr 1
          rw [decide_eq_decide]
          unfold joinsP
          omega
        · rw [if_neg (by simp [c4])]
          congr 1
          symm
          rw [decide_eq_false_iff_not]
          unfold joinsP
          omega
      · rw [if_neg (by simp [c3])]
        congr 1
        symm
        rw [decide_eq_false_iff_not]
        unfold joinsP
        omega
    · rw [if_neg c2]
      congr 1
      symm
      rw [decide_eq_false_iff_not]
      unfold joinsP
      omega
  · rw [if_neg c1]
    congr 1
    symm
    rw [decide_eq_false_iff_not]
    unfold joinsP
    omega

/-- One more extent behind a joined list. -/
def joinAdd (acc : List X) (x : X) : List X :=
  match acc.getLast? with
  | none => [x]
  | some y => if joinsP y x then acc.dropLast ++ [⟨y.f0, y.f1 + x.f1, y.f2⟩] else acc ++ [x]
def joinS : List X → List X → List X
  | acc, [] => acc
  | acc, x :: r => joinS (joinAdd acc x) r
theorem joinAdd_nil (x : X) : joinAdd [] x = [x] := rfl
theorem joinAdd_yes (init : List X) (y x : X) (h : joinsP y x) : joinAdd (init ++ [y]) x = init ++ [⟨y.f0, y.f1 + x.f1, y.f2⟩] := by
  unfold joinAdd
  rw [List.getLast?_append]
  simp [h]
theorem joinAdd_no (init : List X) (y x : X) (h : ¬ joinsP y x) : joinAdd (init ++ [y]) x = init ++ [y] ++ [x] := by
  unfold joinAdd
  rw [List.getLast?_append]
  simp [h]
theorem ok_join {y x : X} (hy : okX y) (hx : okX x) (h : joinsP y x) : okX ⟨y.f0, y.f1 + x.f1, y.f2⟩ := by
  obtain ⟨a1, a2, a3, a4, a5, a6, a7, a8⟩ := hy
  obtain ⟨b1, b2, b3, b4, b5, b6, b7, b8⟩ := hx
  unfold joinsP at h
  exact ⟨a1, a2, by show 1 ≤ y.f1 + x.f1; omega, by show y.f1 + x.f1 < 1073741824; omega, a5, a6, a7, a8⟩
theorem rd_last (init : List X) (y : X) : rd_T35 (init ++ [y]) (init.length : Int) = y := rd_mid init y []
theorem set_last (init : List X) (y z : X) : (init ++ [y]).set ((init.length : Int)).toNat z = init ++ [z] := by simp
theorem len_last (init : List X) (y : X) (h : init.length ≤ 1000000) : wrap64 (((init ++ [y]).length : Int) - 1) = (init.length : Int) := by
  rw [wr (by simp; omega)]
  simp

theorem join_loop (rest : List X) : ∀ (pre acc : List X) (k : Nat), 2 * rest.length < k → (pre ++ rest).length ≤ 64 → (∀ x ∈ rest, okX x) → (∀ x ∈ acc, okX x) → acc.length ≤ pre.length →
    allocation_Join.l0 k acc (pre ++ rest) ((pre ++ rest).length : Int) (pre.length : Int) = some (joinS acc rest) := by
  induction rest with
  | nil =>
    intro pre acc k hk hb _ _ _
    obtain ⟨k, rfl⟩ : ∃ m, k = m + 1 := ⟨k - 1, by omega⟩
    simp only [allocation_Join.l0]
    rw [if_neg (not_lt_end pre)]
    rfl
  | cons x rest ih =>
    intro pre acc k hk hb hok hacc hlen
    obtain ⟨k, rfl⟩ : ∃ m, k = m + 1 := ⟨k - 1, by simp at hk; omega⟩
    have hb' : pre.length + (rest.length + 1) ≤ 64 := by simpa using hb
    have hx := hok x (by simp)
    simp only [List.length_cons] at hk
    simp only [allocation_Join.l0]
    rw [if_pos (lt_mid pre rest x), if_pos (by omega), if_pos (lt_mid pre rest x), rd_mid, next pre rest x (by omega)]
    have go : ∀ acc' : List X, (∀ z ∈ acc', okX z) → acc'.length ≤ pre.length + 1 → allocation_Join.l0 k acc' (pre ++ x :: rest) ((pre ++ x :: rest).length : Int) ((pre ++ [x]).length : Int) = some (joinS acc' rest) := by
      intro acc' h1 h2
      have := ih (pre ++ [x]) acc' k (by omega) (by simpa using hb) (fun y hy => hok y (by simp [hy])) h1 (by simpa using h2)
      rw [← push] at this
      exact this
    rcases List.eq_nil_or_concat acc with rfl | ⟨init, y, rfl⟩
    · rw [if_neg (by rw [wr (by simp)]; simp), if_pos (by simp)]
      exact go [x] (by simpa using hx) (by simp)
    · rw [List.concat_eq_append] at hacc hlen ⊢
      have hy := hacc y (by simp)
      have hi : init.length + 1 ≤ pre.length := by simpa using hlen
      rw [len_last init y (by omega), if_pos (by omega), if_pos (by omega), if_pos (by simp; omega), rd_last, joins_is hy hx]
      simp only [Option.bind_some, decide_eq_true_eq]
      have ey : (⟨y.f0, y.f1 + x.f1, ⟨y.f2.f0, y.f2.f1⟩⟩ : X) = ⟨y.f0, y.f1 + x.f1, y.f2⟩ := rfl
      have ex : (⟨x.f0, x.f1, ⟨x.f2.f0, x.f2.f1⟩⟩ : X) = x := rfl
      by_cases hj : joinsP y x
      · rw [if_pos hj, set_last, wr (n := y.f1 + x.f1) (by obtain ⟨_, _, q3, q4, _⟩ := hy; obtain ⟨_, _, q5, q6, _⟩ := hx; omega)]
        rw [go]
        · simp only [joinS]; rw [joinAdd_yes init y x hj]
        · intro z hz
          rcases List.mem_append.1 hz with h1 | h1
          · exact hacc z (by simp [h1])
          · rw [List.mem_singleton.1 h1]; exact ok_join hy hx hj
        · simp; omega
      · rw [if_neg hj, if_pos (by simp; omega), go]
        · simp only [joinS]; rw [joinAdd_no init y x hj]
        · intro z hz
          rcases List.mem_append.1 hz with h1 | h1
          · exact hacc z h1
          · rw [List.mem_singleton.1 h1]; exact hx
        · simp; omega

theorem join_is (l : List X) (hl : l.length ≤ 64) (hok : ∀ x ∈ l, okX x) (k : Nat) (hk : 2 * l.length < k) : allocation_Join.f k l = some (joinS [] l) := by
  unfold allocation_Join.f
  rw [formed_is l (by omega) k (by omega)]
  have hf : formedB l = true := by unfold formedB; rw [decide_eq_true_eq]; exact ⟨hl, hok⟩
  simp only [Option.bind_some]
  rw [if_pos hf]
  have := join_loop l [] [] k hk (by simpa using hl) hok (by simp) (by simp)
  simpa using this

theorem equal_loop (rest : List X) : ∀ (pre : List X) (k : Nat), rest.length < k → (pre ++ rest).length ≤ 4611686018427387904 → slices_Equal_api_Extent.l0 k (pre ++ rest) (pre ++ rest) ((pre ++ rest).length : Int) (pre.length : Int) = some true := by
  induction rest with
  | nil =>
    intro pre k hk _
    obtain ⟨k, rfl⟩ : ∃ m, k = m + 1 := ⟨k - 1, by omega⟩
    simp only [slices_Equal_api_Extent.l0]
    rw [if_neg (not_lt_end pre)]
  | cons x rest ih =>
    intro pre k hk hb
    obtain ⟨k, rfl⟩ : ∃ m, k = m + 1 := ⟨k - 1, by omega⟩
    simp only [slices_Equal_api_Extent.l0]
    rw [if_pos (lt_mid pre rest x), if_pos (by omega), if_pos (lt_mid pre rest x), if_pos (lt_mid pre rest x), next pre rest x hb, if_neg (by simp)]
    have := ih (pre ++ [x]) k (by simp at hk; omega) (by simpa using hb)
    rw [← push] at this
    exact this
theorem equal_same (l : List X) (hb : l.length ≤ 4611686018427387904) (k : Nat) (hk : l.length < k) : slices_Equal_api_Extent.f k l l = some true := by
  unfold slices_Equal_api_Extent.f
  rw [if_pos rfl]
  have := equal_loop l [] k hk (by simpa using hb)
  simpa using this

/-- The extent of one block. -/
def mk (b : Int) : X := ⟨0, 2048, ⟨b, 0⟩⟩
/-- The extents of some blocks: the first error, or the list. -/
def extS (start count : Int) : List X → List Int → List X × Int
  | acc, [] => if acc.length > 64 then ([], 7) else (acc, 0)
  | acc, v :: r => if v < start ∨ v - start ≥ count then ([], 2) else extS start count (joinAdd acc (mk (v - start))) r
/-- What is known of the extents of n blocks. -/
def Inv (n : Nat) (acc : List X) : Prop := acc.length ≤ n ∧ ∀ x ∈ acc, x.f0 = 0 ∧ x.f2.f1 = 0 ∧ x.f1 % 2048 = 0 ∧ 1 ≤ x.f1 ∧ x.f1 ≤ 2048 * n ∧ 0 ≤ x.f2.f0 ∧ x.f2.f0 < 4294967296
theorem Inv.ok {n : Nat} {acc : List X} (h : Inv n acc) (hn : n ≤ 150) : ∀ x ∈ acc, okX x := by
  intro x hx
  obtain ⟨h1, h2, h3, h4, h5, h6, h7⟩ := h.2 x hx
  unfold okX
  omega
theorem inv_add {n : Nat} {acc : List X} (h : Inv n acc) (b : Int) (hb : 0 ≤ b ∧ b < 4294967296) : Inv (n + 1) (joinAdd acc (mk b)) := by
  obtain ⟨hl, hi⟩ := h
  have up : ∀ x ∈ acc, x.f0 = 0 ∧ x.f2.f1 = 0 ∧ x.f1 % 2048 = 0 ∧ 1 ≤ x.f1 ∧ x.f1 ≤ 2048 * ((n + 1 : Nat) : Int) ∧ 0 ≤ x.f2.f0 ∧ x.f2.f0 < 4294967296 := by
    intro x hx
    obtain ⟨h1, h2, h3, h4, h5, h6, h7⟩ := hi x hx
    exact ⟨h1, h2, h3, h4, by omega, h6, h7⟩
  have hm : (mk b).f0 = 0 ∧ (mk b).f2.f1 = 0 ∧ (mk b).f1 % 2048 = 0 ∧ 1 ≤ (mk b).f1 ∧ (mk b).f1 ≤ 2048 * ((n + 1 : Nat) : Int) ∧ 0 ≤ (mk b).f2.f0 ∧ (mk b).f2.f0 < 4294967296 :=
    ⟨rfl, rfl, rfl, by show (1 : Int) ≤ 2048; omega, by show (2048 : Int) ≤ _; omega, hb.1, hb.2⟩
  rcases List.eq_nil_or_concat acc with rfl | ⟨init, y, rfl⟩
  · rw [joinAdd_nil]
    refine ⟨by simp, ?_⟩
    intro x hx
    rw [List.mem_singleton.1 hx]
    exact hm
  · rw [List.concat_eq_append] at *
    by_cases hj : joinsP y (mk b)
    · rw [joinAdd_yes init y _ hj]
      refine ⟨by simp at hl ⊢; omega, ?_⟩
      intro x hx
      rcases List.mem_append.1 hx with h1 | h1
      · exact up x (by simp [h1])
      · rw [List.mem_singleton.1 h1]
        obtain ⟨q1, q2, q3, q4, q5, q6, q7⟩ := hi y (by simp)
        refine ⟨q1, q2, ?_, ?_, ?_, q6, q7⟩
        · show (y.f1 + 2048) % 2048 = 0; omega
        · show 1 ≤ y.f1 + 2048; omega
        · show y.f1 + 2048 ≤ 2048 * ((n + 1 : Nat) : Int); omega
    · rw [joinAdd_no init y _ hj]
      refine ⟨by simp at hl ⊢; omega, ?_⟩
      intro x hx
      rcases List.mem_append.1 hx with h1 | h1
      · exact up x h1
      · rw [List.mem_singleton.1 h1]
        exact hm

theorem rd_int (pre : List Int) (x : Int) (rest : List Int) : rd (pre ++ x :: rest) (pre.length : Int) = x := getD_mid pre x _ rest

theorem ext_loop (start count : Int) (hs : 0 ≤ start ∧ start ≤ 1099511627776) (hc : count ≤ 4294967296) (rest : List Int) : ∀ (pre : List Int) (acc : List X) (k : Nat), 2 * rest.length + 8 < k → (pre ++ rest).length ≤ 150 → Inv pre.length acc → (∀ v ∈ rest, -9223372036854775808 ≤ v ∧ v ≤ 9223372036854775807) →
    metadata_Extents.l0 k acc (pre ++ rest) ((pre ++ rest).length : Int) (pre.length : Int) start count = some (extS start count acc rest) := by
  induction rest with
  | nil =>
    intro pre acc k hk hb _ _
    obtain ⟨k, rfl⟩ : ∃ m, k = m + 1 := ⟨k - 1, by omega⟩
    simp only [metadata_Extents.l0, extS]
    rw [if_neg (not_lt_end pre)]
    by_cases h : acc.length > 64
    · rw [if_pos (by omega), if_pos h]
    · rw [if_neg (by omega), if_neg h]
  | cons v rest ih =>
    intro pre acc k hk hb hinv hw
    obtain ⟨k, rfl⟩ : ∃ m, k = m + 2 := ⟨k - 2, by simp at hk; omega⟩
    have hb' : pre.length + (rest.length + 1) ≤ 150 := by simpa using hb
    have hv := hw v (by simp)
    simp only [List.length_cons] at hk
    simp only [metadata_Extents.l0, metadata_Extents.j1, if_true, decide_eq_true_eq]
    rw [if_pos (lt_mid pre rest v), if_pos (by omega), if_pos (lt_mid pre rest v), rd_int, next pre rest v (by omega)]
    by_cases c1 : v < start
    · rw [if_pos c1]
      simp only [extS]
      rw [if_pos (.inl c1)]
    · rw [if_neg c1, wr (n := v - start) (by omega)]
      by_cases c2 : v - start ≥ count
      · rw [if_pos c2]
        simp only [extS]
        rw [if_pos (.inr c2)]
      · rw [if_neg c2]
        have hi := inv_add hinv (v - start) (by omega)
        have e : extS start count acc (v :: rest) = extS start count (joinAdd acc (mk (v - start))) rest := by simp only [extS]; rw [if_neg (by omega)]
        rw [e]
        have go := ih (pre ++ [v]) (joinAdd acc (mk (v - start))) k (by omega) (by simpa using hb) (by simpa using hi) (fun z hz => hw z (by simp [hz]))
        rw [← push] at go
        have hm : okX (mk (v - start)) := by unfold okX mk; simp; omega
        have hal := hinv.1
        rcases List.eq_nil_or_concat acc with rfl | ⟨init, y, rfl⟩
        · rw [if_neg (by simp), if_pos (by simp)]
          exact go
        · rw [List.concat_eq_append] at *
          have hil : init.length + 1 ≤ pre.length := by simpa using hal
          have hok := hinv.ok (by omega)
          have hy := hok y (by simp)
          have hj2 : allocation_Join.f k [y, mk (v - start)] = some (joinS [] [y, mk (v - start)]) := join_is _ (by simp) (by intro z hz; simp at hz; rcases hz with rfl | rfl; exact hy; exact hm) k (by simp; omega)
          rw [len_last init y (by omega), if_pos (by simp), if_pos (by omega), if_pos (by simp; omega), rd_last]
          have ey : (⟨y.f0, y.f1, ⟨y.f2.f0, y.f2.f1⟩⟩ : X) = y := rfl
          have em : (⟨0, 2048, ⟨v - start, 0⟩⟩ : X) = mk (v - start) := rfl
          rw [ey, em, hj2]
          simp only [Option.bind_some, joinS, joinAdd_nil]
          by_cases hj : joinsP y (mk (v - start))
          · have e1 := joinAdd_yes [] y _ hj
            simp only [List.nil_append] at e1
            rw [e1, if_pos (by simp), if_pos (by simp), set_last]
            rw [joinAdd_yes init y _ hj] at go ⊢
            exact go
          · have e1 := joinAdd_no [] y _ hj
            simp only [List.nil_append] at e1
            rw [e1, if_neg (by simp), if_pos (by simp; omega)]
            rw [joinAdd_no init y _ hj] at go ⊢
            exact go

theorem extents_is (start count : Int) (hs : 0 ≤ start ∧ start ≤ 1099511627776) (hc : count ≤ 4294967296) (l : List Int) (hl : l.length ≤ 150) (hw : ∀ v ∈ l, -9223372036854775808 ≤ v ∧ v ≤ 9223372036854775807) (k : Nat) (hk : 310 < k) :
    metadata_Extents.f k start count l = some (extS start count [] l) := by
  unfold metadata_Extents.f
  have := ext_loop start count hs hc l [] [] k (by omega) (by simpa using hl) ⟨by simp, by simp⟩ hw
  simpa using this
theorem extS_len (start count : Int) (l : List Int) : ∀ acc, (extS start count acc l).1.length ≤ 64 := by
  induction l with
  | nil => intro acc; simp only [extS]; split <;> simp <;> omega
  | cons v r ih => intro acc; simp only [extS]; split; simp; exact ih _
end Go.Proofs.Yticmghpnbjhhnaa.Ext
