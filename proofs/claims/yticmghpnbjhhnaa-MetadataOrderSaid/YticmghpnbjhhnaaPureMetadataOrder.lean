/-
  The extents of some blocks have these blocks in their order, and no two of them can be joined: the pure statement.
-/
import Derived.Test.YticmghpnbjhhnaaMeta
import Derived.Test.YticmghpnbjhhnaaExt
import Derived.Test.YticmghpnbjhhnaaM17
namespace Go.Proofs.Yticmghpnbjhhnaa.Pure
open Go.RowKit Go.Proofs.Yticmghpnbjhhnaa.M Go.Proofs.YticmghpnbjhhnaaW.PrintWords Go.Proofs.Yticmghpnbjhhnaa.Kit Go.Proofs.Yticmghpnbjhhnaa.Alloc Go.Proofs.Yticmghpnbjhhnaa.Meta Go.Proofs.Yticmghpnbjhhnaa.Ext
set_option linter.unusedSimpArgs false

/-- The blocks of an extent, of a list. -/
def expX (x : X) : List Int := (List.range (x.f1 / 2048).toNat).map (fun (j : Nat) => x.f2.f0 + (j : Int))
def expL (l : List X) : List Int := l.flatMap expX
/-- No two neighbours can be joined. -/
def sep : List X → Prop
  | x :: y :: r => x.f2.f0 + x.f1 / 2048 ≠ y.f2.f0 ∧ sep (y :: r)
  | _ => True
theorem sep_snoc (init : List X) (y x : X) (h : sep (init ++ [y])) (hx : y.f2.f0 + y.f1 / 2048 ≠ x.f2.f0) : sep (init ++ [y] ++ [x]) := by
  induction init with
  | nil => exact ⟨hx, trivial⟩
  | cons z r ih =>
    cases r with
    | nil => exact ⟨h.1, ih h.2⟩
    | cons u r => exact ⟨h.1, ih h.2⟩
theorem sep_last (init : List X) (y y' : X) (h : sep (init ++ [y])) (he : y'.f2.f0 = y.f2.f0) : sep (init ++ [y']) := by
  induction init with
  | nil => exact trivial
  | cons z r ih =>
    cases r with
    | nil => exact ⟨by rw [he]; exact h.1, trivial⟩
    | cons u r => exact ⟨h.1, ih h.2⟩

def nice (x : X) : Prop := x.f0 = 0 ∧ x.f2.f1 = 0 ∧ x.f1 % 2048 = 0 ∧ 1 ≤ x.f1 ∧ x.f1 ≤ 307200 ∧ 0 ≤ x.f2.f0 ∧ x.f2.f0 < 4294967296
theorem nice_joins {a b : X} (ha : nice a) (hb : nice b) : joinsP a b ↔ a.f2.f0 + a.f1 / 2048 = b.f2.f0 := by
  obtain ⟨a1, a2, a3, a4, a5, a6, a7⟩ := ha
  obtain ⟨b1, b2, b3, b4, b5, b6, b7⟩ := hb
  unfold joinsP
  constructor
  · intro h; exact h.2.2.1
  · intro h; exact ⟨by omega, a3, h, by omega, by omega⟩
theorem nice_ok {x : X} (h : nice x) : okX x := by
  obtain ⟨a1, a2, a3, a4, a5, a6, a7⟩ := h
  unfold okX
  omega

theorem joinS_sep (l : List X) : ∀ (init : List X) (y : X), sep (y :: l) → nice y → (∀ x ∈ l, nice x) → joinS (init ++ [y]) l = init ++ [y] ++ l := by
  induction l with
  | nil => intro init y _ _ _; simp [joinS]
  | cons x r ih =>
    intro init y hs hy hl
    have hx := hl x (by simp)
    simp only [joinS]
    rw [joinAdd_no init y x (fun h => hs.1 ((nice_joins hy hx).1 h)), ih (init ++ [y]) x hs.2 hx (fun z hz => hl z (by simp [hz]))]
    simp
theorem joinS_id (l : List X) (hs : sep l) (hl : ∀ x ∈ l, nice x) : joinS [] l = l := by
  cases l with
  | nil => rfl
  | cons x r =>
    simp only [joinS, joinAdd_nil]
    have := joinS_sep r [] x hs (hl x (by simp)) (fun z hz => hl z (by simp [hz]))
    simpa using this

theorem expX_len {x : X} (h : nice x) : ((expX x).length : Int) * 2048 = x.f1 := by
  obtain ⟨a1, a2, a3, a4, a5, a6, a7⟩ := h
  unfold expX
  simp
  omega
theorem sum_exp (l : List X) (hl : ∀ x ∈ l, nice x) : sumX l = 2048 * ((expL l).length : Int) := by
  induction l with
  | nil => simp [sumX, expL]
  | cons x r ih =>
    have h1 := expX_len (hl x (by simp))
    have h2 := ih (fun z hz => hl z (by simp [hz]))
    rw [sumX_cons, h2]
    have e : expL (x :: r) = expX x ++ expL r := by simp [expL]
    rw [e, List.length_append]
    omega
theorem locS_exp (l : List X) (hl : ∀ x ∈ l, nice x) : ∀ (i : Nat) (a : Int), (expL l)[i]? = some a → locS l (i : Int) = some (a, 0, 0) := by
  induction l with
  | nil => intro i a h; simp [expL] at h
  | cons x r ih =>
    intro i a h
    have hx := hl x (by simp)
    have h1 := expX_len hx
    obtain ⟨a1, a2, a3, a4, a5, a6, a7⟩ := hx
    have hc : cnt x.f1 = x.f1 / 2048 := by unfold cnt; omega
    have e : expL (x :: r) = expX x ++ expL r := by simp [expL]
    rw [e] at h
    simp only [locS]
    by_cases hi : i < (expX x).length
    · rw [List.getElem?_append_left hi] at h
      rw [if_pos (by omega)]
      unfold expX at h hi
      simp only [List.length_map, List.length_range] at hi
      rw [List.getElem?_map, List.getElem?_range hi] at h
      simp only [Option.map_some, Option.some.injEq] at h
      rw [h, a1, a2]
    · rw [List.getElem?_append_right (by omega)] at h
      rw [if_neg (by omega), if_neg (by omega), hc]
      have := ih (fun z hz => hl z (by simp [hz])) (i - (expX x).length) a h
      have e2 : ((i - (expX x).length : Nat) : Int) = (i : Int) - x.f1 / 2048 := by omega
      rw [e2] at this
      exact this

/-- The extents after some blocks. -/
def G (bs : List Int) (acc : List X) : Prop := Inv bs.length acc ∧ expL acc = bs ∧ sep acc ∧ ∀ x ∈ acc, x.f2.f0 + x.f1 / 2048 ≤ 2147483648
theorem G.nices {bs : List Int} {acc : List X} (h : G bs acc) (hb : bs.length ≤ 150) : ∀ x ∈ acc, nice x := by
  intro x hx
  obtain ⟨h1, h2, h3, h4, h5, h6, h7⟩ := h.1.2 x hx
  exact ⟨h1, h2, h3, h4, by omega, h6, h7⟩
theorem G_add {bs : List Int} {acc : List X} (h : G bs acc) (b : Int) (hb : 0 ≤ b ∧ b < 2147483648) (hn : bs.length < 150) : G (bs ++ [b]) (joinAdd acc (mk b)) := by
  have hi : Inv (bs ++ [b]).length (joinAdd acc (mk b)) := by have := inv_add h.1 b (by omega); simpa using this
  have hnice := h.nices (by omega)
  obtain ⟨hinv, he, hs, hm⟩ := h
  have hmk : nice (mk b) := ⟨rfl, rfl, rfl, by show (1 : Int) ≤ 2048; omega, by show (2048 : Int) ≤ 307200; omega, hb.1, by show b < 4294967296; omega⟩
  have emk : expX (mk b) = [b] := by simp [expX, mk]
  have hmb : (mk b).f2.f0 + (mk b).f1 / 2048 ≤ 2147483648 := by show b + 2048 / 2048 ≤ 2147483648; omega
  refine ⟨hi, ?_⟩
  rcases List.eq_nil_or_concat acc with rfl | ⟨init, y, rfl⟩
  · rw [joinAdd_nil]
    have : bs = [] := by rw [← he]; rfl
    subst this
    exact ⟨by simp [expL, emk], trivial, by intro x hx; rw [List.mem_singleton.1 hx]; exact hmb⟩
  · rw [List.concat_eq_append] at *
    have hy := hnice y (by simp)
    by_cases hj : joinsP y (mk b)
    · rw [joinAdd_yes init y _ hj]
      have hj' := (nice_joins hy hmk).1 hj
      obtain ⟨y1, y2, y3, y4, y5, y6, y7⟩ := hy
      have hb' : y.f2.f0 + y.f1 / 2048 = b := hj'
      refine ⟨?_, sep_last init y _ hs rfl, ?_⟩
      · rw [← he]
        have e1 : expX ⟨y.f0, y.f1 + (mk b).f1, y.f2⟩ = expX y ++ [b] := by
          unfold expX
          have e0 : ((y.f1 + (mk b).f1) / 2048).toNat = (y.f1 / 2048).toNat + 1 := by show ((y.f1 + 2048) / 2048).toNat = _; omega
          simp only [e0, List.range_succ, List.map_append, List.map_cons, List.map_nil]
          have e2 : y.f2.f0 + (((y.f1 / 2048).toNat : Nat) : Int) = b := by omega
          rw [e2]
        simp [expL, e1]
      · intro x hx
        rcases List.mem_append.1 hx with h1 | h1
        · exact hm x (by simp [h1])
        · rw [List.mem_singleton.1 h1]
          show y.f2.f0 + (y.f1 + 2048) / 2048 ≤ 2147483648
          omega
    · rw [joinAdd_no init y _ hj]
      refine ⟨?_, sep_snoc init y _ hs (fun h => hj ((nice_joins hy hmk).2 h)), ?_⟩
      · rw [← he]
        simp [expL, emk]
      · intro x hx
        rcases List.mem_append.1 hx with h1 | h1
        · exact hm x h1
        · rw [List.mem_singleton.1 h1]; exact hmb

theorem ext_G (start count : Int) (hc : count ≤ 2147483648) (rest : List Int) : ∀ (bs : List Int) (acc l : List X), G bs acc → bs.length + rest.length ≤ 150 → extS start count acc rest = (l, 0) → l.length ≤ 64 ∧ G (bs ++ rest.map (· - start)) l := by
  induction rest with
  | nil =>
    intro bs acc l hG _ h
    simp only [extS] at h
    split at h
    · simp at h
    · simp only [Prod.mk.injEq, and_true] at h
      subst h
      exact ⟨by omega, by simpa using hG⟩
  | cons v r ih =>
    intro bs acc l hG hb h
    simp only [extS] at h
    split at h
    · simp at h
    · rename_i hv
      simp only [List.length_cons] at hb
      have := ih (bs ++ [v - start]) _ l (G_add hG (v - start) (by omega) (by omega)) (by simp; omega) h
      simpa using this
theorem ext_err (start count : Int) (rest : List Int) : ∀ acc, (extS start count acc rest).2 ≠ 0 → (extS start count acc rest).1 = [] := by
  induction rest with
  | nil => intro acc; simp only [extS]; split <;> simp
  | cons v r ih => intro acc; simp only [extS]; split; simp; exact ih _

theorem chain_nice (l : List X) (h : ∀ x ∈ l, nice x) (hm : ∀ x ∈ l, x.f2.f0 + x.f1 / 2048 ≤ 2147483648) : chainB l = true := by
  induction l with
  | nil => rfl
  | cons x r ih =>
    obtain ⟨a1, a2, a3, a4, a5, a6, a7⟩ := h x (by simp)
    have hx := hm x (by simp)
    have hc : cnt x.f1 = x.f1 / 2048 := by unfold cnt; omega
    have hr := ih (fun z hz => h z (by simp [hz])) (fun z hz => hm z (by simp [hz]))
    cases r with
    | nil => simp only [chainB, decide_eq_true_eq]; omega
    | cons y r => simp only [chainB, Bool.and_eq_true, decide_eq_true_eq]; exact ⟨by omega, hr⟩

theorem order_loop (start count : Int) (hs : 0 ≤ start ∧ start ≤ 1099511627776) (l : List X) (hl : l.length ≤ 64) (hv : validB l = true) (hn : ∀ x ∈ l, nice x) (hcnt : ∀ a ∈ expL l, a < count) (rest : List Int) :
    ∀ (pre : List Int) (k : Nat), rest.length + 400 < k → (pre ++ rest).length ≤ 150 → expL l = (pre ++ rest).map (· - start) → masterdisclaw40_MetadataOrder.l0 k l (pre ++ rest) ((pre ++ rest).length : Int) (pre.length : Int) start count start count l = some true := by
  induction rest with
  | nil =>
    intro pre k hk hb _
    obtain ⟨k, rfl⟩ : ∃ m, k = m + 1 := ⟨k - 1, by omega⟩
    simp only [masterdisclaw40_MetadataOrder.l0]
    rw [if_neg (not_lt_end pre)]
  | cons v rest ih =>
    intro pre k hk hb he
    obtain ⟨k, rfl⟩ : ∃ m, k = m + 1 := ⟨k - 1, by omega⟩
    have hb' : pre.length + (rest.length + 1) ≤ 150 := by simpa using hb
    simp only [List.length_cons] at hk
    simp only [masterdisclaw40_MetadataOrder.l0]
    have hget : (expL l)[pre.length]? = some (v - start) := by rw [he]; simp
    have hloc := locS_exp l hn pre.length _ hget
    have hT : locT l (pre.length : Int) = (v - start, 0, 0, 0) := by unfold locT; rw [if_pos hv, hloc]; rfl
    have hr := locT_range l (pre.length : Int)
    rw [hT] at hr
    have hlt : v - start < count := hcnt _ (List.mem_of_getElem? hget)
    have hL := (locate_is l (pre.length : Int) (by omega) (by omega) (by omega) k (by omega)).1
    have hLs := (locations_is [] start count [] [] l [] (pre.length : Int) hs (by omega) (by simp) (by omega) (by omega) k (by omega)).1
    have hn1 : locn start count l (pre.length : Int) = v := by
      unfold locn
      rw [hT]
      show (if (0 : Int) = 0 then if (0 : Int) = 0 then if v - start ≥ count then -1 else start + (v - start) else -1 else -1) = v
      rw [if_pos rfl, if_pos rfl, if_neg (by omega)]
      omega
    have hr1 : 0 ≤ v - start := hr.1
    have hr2 : v - start ≤ 8589934592 := hr.2
    have hn2 : locn start count [] (pre.length : Int) = -1 := by
      unfold locn
      have : locT [] (pre.length : Int) = (0, 0, 0, 2) := rfl
      rw [this]
      rfl
    have hv1 : ¬ v = -1 := by omega
    have hS : locsS start count l [] (pre.length : Int) = (v, -1, 0) := by
      unfold locsS
      rw [hn1, hn2, if_neg hv1]
    rw [if_pos (lt_mid pre rest v), if_pos (by omega), if_pos (lt_mid pre rest v), rd_int, next pre rest v (by omega), hL, hLs, hT, hS]
    simp only [Option.bind_some, if_true]
    rw [wr (n := v - start + start) (by omega), if_pos (by omega)]
    have := ih (pre ++ [v]) k (by omega) (by simpa using hb) (by simpa using he)
    rw [← push] at this
    exact this

theorem MetadataOrder : masterdisclaw40_MetadataOrder.Pure := by
  intro p l hp hl
  obtain ⟨k, hk⟩ : ∃ k, k = 898 := ⟨_, rfl⟩
  refine ⟨k + 2, ?_⟩
  unfold masterdisclaw40_MetadataOrder.f
  rw [awake_is (k + 2) (by omega)]
  simp only [Option.bind_some, if_true, masterdisclaw40_MetadataOrder.j0, decide_eq_true_eq]
  by_cases c1 : (l.length : Int) > 150
  · rw [if_pos c1]
  · rw [if_neg c1]
    by_cases c2 : p.f0 < 0
    · rw [if_pos c2]
    · rw [if_neg c2]
      by_cases c3 : p.f0 > 1099511627776
      · rw [if_pos c3]
      · rw [if_neg c3]
        by_cases c4 : p.f1 > 2147483648
        · rw [if_pos c4]
        · rw [if_neg c4]
          have hw : ∀ v ∈ l, -9223372036854775808 ≤ v ∧ v ≤ 9223372036854775807 := fun v hv => wf64 (hl.2 v hv)
          rw [extents_is p.f0 p.f1 (by omega) (by omega) l (by omega) hw (k + 1) (by omega)]
          simp only [Option.bind_some]
          by_cases he : (extS p.f0 p.f1 [] l).2 = 0
          · rw [if_pos he]
            have hG := ext_G p.f0 p.f1 (by omega) l [] [] (extS p.f0 p.f1 [] l).1 ⟨⟨by simp, by simp⟩, rfl, trivial, by simp⟩ (by simp; omega) (by rw [← he])
            generalize hx : (extS p.f0 p.f1 [] l).1 = x at hG ⊢
            obtain ⟨hx64, hG⟩ := hG
            simp only [List.nil_append] at hG
            have hbl : (l.map (· - p.f0)).length ≤ 150 := by simp; omega
            have hn := hG.nices hbl
            have hexp := hG.2.1
            have hsum : sumX x = 2048 * (l.length : Int) := by rw [sum_exp x hn, hexp]; simp
            have hform : formedB x = true := by unfold formedB; rw [decide_eq_true_eq]; exact ⟨hx64, fun z hz => nice_ok (hn z hz)⟩
            have hvalid : validB x = true := by
              unfold validB
              rw [hform, chain_nice x hn hG.2.2.2]
              have : sumX x ≤ 1073739776 := by omega
              simp [this]
            have hlen : lenS x = 2048 * (l.length : Int) := by rw [lenS, if_pos hform, hsum]
            rw [(length_is x (by omega) (k + 1) (by omega)).1, hlen, Option.bind_some]
            rw [if_pos (by rw [wr (by omega)]; omega), join_is x hx64 (fun z hz => nice_ok (hn z hz)) (k + 1) (by omega), joinS_id x hG.2.2.1 hn]
            simp only [Option.bind_some]
            rw [equal_same x (by omega) (k + 1) (by omega)]
            simp only [Option.bind_some, if_true]
            rw [(size_is [] p.f0 p.f1 [] [] x [] (by omega) (by simp) (k + 1) (by omega)).1]
            have hsz : mx (sizeS x) (sizeS []) = (l.length : Int) := by
              have h1 : sizeS x = (l.length : Int) := by unfold sizeS; rw [if_pos hvalid, hsum]; unfold cnt; omega
              have h2 : sizeS [] = 0 := rfl
              rw [h1, h2]
              unfold mx
              split <;> omega
            rw [hsz]
            simp only [Option.bind_some, masterdisclaw40_MetadataOrder.j1]
            rw [if_neg (by simp)]
            have hcnt : ∀ a ∈ expL x, a < p.f1 := by
              intro a ha
              rw [hexp] at ha
              obtain ⟨v, hv, rfl⟩ := List.mem_map.1 ha
              have hall : ∀ (rest : List Int) (acc : List X), (extS p.f0 p.f1 acc rest).2 = 0 → ∀ v ∈ rest, v - p.f0 < p.f1 := by
                intro rest
                induction rest with
                | nil => intro acc _ v hv; simp at hv
                | cons u r ih =>
                  intro acc h v hv
                  simp only [extS] at h
                  split at h
                  · simp at h
                  · rename_i hu
                    rcases List.mem_cons.1 hv with rfl | hv
                    · omega
                    · exact ih _ h v hv
              exact hall l [] he v hv
            have := order_loop p.f0 p.f1 (by omega) x hx64 hvalid hn hcnt l [] k (by omega) (by simp; omega) (by simpa using hexp)
            simpa using this
          · rw [if_neg he, ext_err p.f0 p.f1 l [] he]
            rfl
end Go.Proofs.Yticmghpnbjhhnaa.Pure
