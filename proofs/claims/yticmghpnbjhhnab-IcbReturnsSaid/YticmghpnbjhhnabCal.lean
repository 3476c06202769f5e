/-
  Dates: splitting a time, the seconds of a clock, and the timestamp of a time, which is read back as that time.
-/
import Derived.Test.YticmghpnbjhhnabM8
import Derived.Test.YticmghpnbjhhnabM14
import Derived.Test.YticmghpnbjhhnabNum
namespace Go.Proofs.Yticmghpnbjhhnab.Cal
open Go.RowKit Go.Proofs.Yticmghpnbjhhnab.M Go.Proofs.YticmghpnbjhhnabW.PrintWords Go.Proofs.YticmghpnbjhhnabW.PrintLast Go.Proofs.YticmghpnbjhhnabW.PrintMore Go.Proofs.Yticmghpnbjhhnab.Kit Go.Proofs.Yticmghpnbjhhnab.Num
set_option linter.unusedVariables false

def leapB (y : Int) : Bool := decide (y % 400 = 0 ∨ (y % 4 = 0 ∧ ¬ y % 100 = 0))
def ylen (y : Int) : Int := if leapB y = true then 366 else 365
def mlen (y : Int) (m : Nat) : Int := if m = 2 ∧ leapB y = true then 29 else monthLen.getD (m - 1) 0
theorem leap_is (y : Int) (h : 0 ≤ y) : datetime_leap.f y = some (leapB y) := by
  unfold datetime_leap.f leapB
  rw [Int.tmod_eq_emod_of_nonneg h, Int.tmod_eq_emod_of_nonneg h, Int.tmod_eq_emod_of_nonneg h]
  by_cases c1 : y % 400 = 0
  · rw [if_pos c1]; simp [c1]
  · rw [if_neg c1]
    by_cases c2 : y % 4 = 0
    · rw [if_pos c2]
      by_cases c3 : y % 100 = 0
      · simp [c1, c2, c3]
      · simp [c1, c2, c3]
    · rw [if_neg c2]; simp [c1, c2]
theorem yearDays_is (y : Int) (h : 0 ≤ y) : datetime_yearDays.f y = some (ylen y) := by
  unfold datetime_yearDays.f ylen
  rw [leap_is y h]
  cases leapB y <;> rfl
theorem monthDays_is (y : Int) (m : Nat) (h : 0 ≤ y) (h1 : 1 ≤ m) (h12 : m ≤ 12) : datetime_monthDays.f y (m : Int) = some (mlen y m) := by
  unfold datetime_monthDays.f mlen
  rw [leap_is y h]
  rcases (by omega : m = 1 ∨ m = 2 ∨ m = 3 ∨ m = 4 ∨ m = 5 ∨ m = 6 ∨ m = 7 ∨ m = 8 ∨ m = 9 ∨ m = 10 ∨ m = 11 ∨ m = 12) with rfl | rfl | rfl | rfl | rfl | rfl | rfl | rfl | rfl | rfl | rfl | rfl <;> cases leapB y <;> rfl
theorem ylen_range (y : Int) : 365 ≤ ylen y ∧ ylen y ≤ 366 := by unfold ylen; split <;> omega
theorem mlen_range (y : Int) (m : Nat) (h1 : 1 ≤ m) (h12 : m ≤ 12) : 28 ≤ mlen y m ∧ mlen y m ≤ 31 := by
  unfold mlen
  rcases (by omega : m = 1 ∨ m = 2 ∨ m = 3 ∨ m = 4 ∨ m = 5 ∨ m = 6 ∨ m = 7 ∨ m = 8 ∨ m = 9 ∨ m = 10 ∨ m = 11 ∨ m = 12) with rfl | rfl | rfl | rfl | rfl | rfl | rfl | rfl | rfl | rfl | rfl | rfl <;> cases leapB y <;> decide
def mcum (y : Int) : Nat → Int
  | 0 => 0
  | n + 1 => mcum y n + mlen y (n + 1)
def ycum : Nat → Int
  | 0 => 0
  | n + 1 => ycum n + ylen (1970 + n)
theorem mcum_12 (y : Int) : mcum y 12 = ylen y := by
  simp only [mcum, mlen, ylen]
  cases leapB y <;> decide
theorem mcum_range (y : Int) : ∀ n : Nat, n ≤ 12 → 0 ≤ mcum y n ∧ mcum y n ≤ 31 * n
  | 0, _ => by simp [mcum]
  | n + 1, h => by have := mcum_range y n (by omega); have := mlen_range y (n + 1) (by omega) (by omega); simp only [mcum]; omega
theorem ycum_range : ∀ n : Nat, 0 ≤ ycum n ∧ ycum n ≤ 366 * n
  | 0 => by simp [ycum]
  | n + 1 => by have := ycum_range n; have := ylen_range (1970 + n); simp only [ycum]; omega
theorem ycum_131 : ycum 131 = 47847 := by decide +kernel

theorem month_loop (y : Int) (hy : 0 ≤ y ∧ y ≤ 3000) (x h mi s : Int) (d : Nat) : ∀ (m k : Nat) (days : Int), m + d = 12 → d < k → 0 ≤ days → days < mcum y 12 - mcum y m →
    ∃ (m' : Nat) (D : Int), m' < 12 ∧ 1 ≤ D ∧ D ≤ mlen y (m' + 1) ∧ mcum y m' + D - 1 = days + mcum y m ∧ datetime_Split.l1 k days y ((m : Int) + 1) x h mi s = some (y, (m' : Int) + 1, D, h, mi, s, 0) := by
  induction d with
  | zero =>
    intro m k days hm hk h0 h1
    have e : m = 12 := by omega
    subst e
    omega
  | succ d ih =>
    intro m k days hm hk h0 h1
    obtain ⟨k, rfl⟩ : ∃ j, k = j + 1 := ⟨k - 1, by omega⟩
    have hr := mlen_range y (m + 1) (by omega) (by omega)
    have hc := mcum_range y 12 (by omega)
    have hc2 := mcum_range y m (by omega)
    have hmd := monthDays_is y (m + 1) hy.1 (by omega) (by omega)
    rw [show (((m + 1 : Nat) : Int)) = (m : Int) + 1 from by omega] at hmd
    simp only [datetime_Split.l1]
    rw [hmd]
    simp only [Option.bind_some]
    by_cases c : days ≥ mlen y (m + 1)
    · rw [if_pos c, wr (n := days - mlen y (m + 1)) (by omega), wr (n := (m : Int) + 1 + 1) (by omega)]
      have e : mcum y (m + 1) = mcum y m + mlen y (m + 1) := rfl
      obtain ⟨m', D, r1, r2, r3, r4, r5⟩ := ih (m + 1) k (days - mlen y (m + 1)) (by omega) (by omega) (by omega) (by omega)
      exact ⟨m', D, r1, r2, r3, by omega, by rw [show ((m : Int) + 1 + 1) = (((m + 1 : Nat) : Int)) + 1 from by omega]; exact r5⟩
    · rw [if_neg c, wr (n := days + 1) (by omega)]
      exact ⟨m, days + 1, by omega, by omega, by omega, by omega, rfl⟩
theorem year_loop (x h mi s : Int) (d : Nat) : ∀ (n k : Nat) (days : Int), n + d = 131 → d + 13 < k → 0 ≤ days → days < ycum 131 - ycum n →
    ∃ (n' m' : Nat) (D : Int), n' < 131 ∧ m' < 12 ∧ 1 ≤ D ∧ D ≤ mlen (1970 + n') (m' + 1) ∧ ycum n' + mcum (1970 + n') m' + D - 1 = days + ycum n ∧ datetime_Split.l0 k days (1970 + n) 1 x h mi s = some (1970 + (n' : Int), (m' : Int) + 1, D, h, mi, s, 0) := by
  induction d with
  | zero =>
    intro n k days hm hk h0 h1
    have e : n = 131 := by omega
    subst e
    omega
  | succ d ih =>
    intro n k days hm hk h0 h1
    obtain ⟨k, rfl⟩ : ∃ j, k = j + 1 := ⟨k - 1, by omega⟩
    have hr := ylen_range (1970 + n)
    have hc := ycum_range n
    rw [ycum_131] at h1
    simp only [datetime_Split.l0]
    rw [yearDays_is _ (by omega)]
    simp only [Option.bind_some]
    by_cases c : days ≥ ylen (1970 + n)
    · rw [if_pos c, wr (n := days - ylen (1970 + n)) (by omega), wr (n := 1970 + (n : Int) + 1) (by omega)]
      have e : ycum (n + 1) = ycum n + ylen (1970 + n) := rfl
      obtain ⟨n', m', D, r1, r2, r3, r4, r5, r6⟩ := ih (n + 1) k (days - ylen (1970 + n)) (by omega) (by omega) (by omega) (by rw [ycum_131]; omega)
      exact ⟨n', m', D, r1, r2, r3, r4, by omega, by rw [show (1970 + (n : Int) + 1) = 1970 + (((n + 1 : Nat) : Int)) from by omega]; exact r6⟩
    · rw [if_neg c]
      obtain ⟨m', D, r1, r2, r3, r4, r5⟩ := month_loop (1970 + n) (by omega) x h mi s 12 0 k days (by omega) (by omega) h0 (by rw [mcum_12]; simp [mcum]; omega)
      refine ⟨n, m', D, by omega, r1, r2, r3, ?_, ?_⟩
      · simp only [mcum] at r4; omega
      · rw [show ((0 : Nat) : Int) + 1 = 1 from rfl] at r5
        exact r5

/-- What the clock of a time says. -/
structure ClockOf (t Y M D h mi s : Int) : Prop where
  ex : ∃ n m : Nat, n < 131 ∧ m < 12 ∧ Y = 1970 + n ∧ M = m + 1 ∧ 1 ≤ D ∧ D ≤ mlen Y (m + 1) ∧ ycum n + mcum Y m + D - 1 = t / 86400
  hh : h = t % 86400 / 3600
  hm : mi = t % 86400 / 60 % 60
  hs : s = t % 86400 % 60
def timeB (t : Int) : Bool := decide (315532800 ≤ t ∧ t ≤ 4102444799)
theorem isTime_is (t : Int) : datetime_isTime.f t = some (timeB t) := by
  unfold datetime_isTime.f timeB
  by_cases h : t ≥ 315532800
  · rw [if_pos h]; congr 1; exact decide_eq_decide.mpr (by omega)
  · rw [if_neg h]; congr 1; exact (decide_eq_false (by omega)).symm
theorem split_is (t : Int) (ht : 315532800 ≤ t ∧ t ≤ 4102444799) (k : Nat) (hk : 150 < k) : ∃ Y M D h mi s, datetime_Split.f k t 0 = some (Y, M, D, h, mi, s, 0) ∧ ClockOf t Y M D h mi s := by
  obtain ⟨k, rfl⟩ : ∃ j, k = j + 1 := ⟨k - 1, by omega⟩
  unfold datetime_Split.f
  rw [isTime_is, isZone_is]
  have e1 : timeB t = true := decide_eq_true ht
  have e2 : zoneB 0 = true := by decide
  rw [e1, e2]
  simp only [Option.bind_some, if_true, Bool.not_true, datetime_Split.j0, Bool.false_eq_true, if_false]
  have e3 : wrap64 (t + wrap64 (60 * 0)) = t := by rw [wr (n := 60 * 0) (by omega), wr (by omega)]; omega
  rw [e3, Int.tmod_eq_emod_of_nonneg (by omega), Int.tdiv_eq_ediv_of_nonneg (by omega), Int.tdiv_eq_ediv_of_nonneg (by omega), Int.tdiv_eq_ediv_of_nonneg (by omega), wr (n := t / 86400) (by omega), wr (n := t % 86400 / 3600) (by omega), wr (n := t % 86400 / 60) (by omega), Int.tmod_eq_emod_of_nonneg (by omega), Int.tmod_eq_emod_of_nonneg (by omega)]
  obtain ⟨n, m, D, r1, r2, r3, r4, r5, r6⟩ := year_loop 0 (t % 86400 / 3600) (t % 86400 / 60 % 60) (t % 60) 131 0 k (t / 86400) (by omega) (by omega) (by omega) (by rw [ycum_131]; simp [ycum]; omega)
  rw [show (1970 : Int) + ((0 : Nat) : Int) = 1970 from rfl] at r6
  refine ⟨_, _, _, _, _, _, r6, ⟨n, m, r1, r2, rfl, rfl, r3, r4, ?_⟩, rfl, rfl, by omega⟩
  simp only [ycum] at r5; omega

theorem months_loop (y : Int) (hy : 0 ≤ y ∧ y ≤ 3000) (b c e f : Int) (m : Nat) (hm : m < 12) (d : Nat) : ∀ (i k : Nat) (x : Int), i + d = m → d < k → 0 ≤ x → x ≤ 1000 + 31 * i →
    ∃ k', k ≤ k' + d + 1 ∧ datetime_seconds.l0 k x ((i : Int) + 1) y ((m : Int) + 1) b c e f = datetime_seconds.l1 k' (x + mcum y m - mcum y i) 1970 y ((m : Int) + 1) b c e f := by
  induction d with
  | zero =>
    intro i k x hi hk h0 h1
    obtain ⟨k, rfl⟩ : ∃ j, k = j + 1 := ⟨k - 1, by omega⟩
    obtain rfl : i = m := by omega
    refine ⟨k, by omega, ?_⟩
    simp only [datetime_seconds.l0]
    rw [if_neg (by omega), show x + mcum y i - mcum y i = x from by omega]
  | succ d ih =>
    intro i k x hi hk h0 h1
    obtain ⟨k, rfl⟩ : ∃ j, k = j + 1 := ⟨k - 1, by omega⟩
    have hr := mlen_range y (i + 1) (by omega) (by omega)
    have hmd := monthDays_is y (i + 1) hy.1 (by omega) (by omega)
    rw [show (((i + 1 : Nat) : Int)) = (i : Int) + 1 from by omega] at hmd
    obtain ⟨k', h2, h3⟩ := ih (i + 1) k (x + mlen y (i + 1)) (by omega) (by omega) (by omega) (by omega)
    refine ⟨k', by omega, ?_⟩
    simp only [datetime_seconds.l0]
    rw [if_pos (by omega), hmd]
    simp only [Option.bind_some]
    rw [wr (n := x + mlen y (i + 1)) (by omega), wr (n := (i : Int) + 1 + 1) (by omega)]
    rw [show (((i + 1 : Nat) : Int)) = (i : Int) + 1 from by omega] at h3
    rw [h3]
    have e' : mcum y (i + 1) = mcum y i + mlen y (i + 1) := rfl
    rw [e', show x + mlen y (i + 1) + mcum y m - (mcum y i + mlen y (i + 1)) = x + mcum y m - mcum y i from by omega]
theorem years_loop (a b c e f : Int) (n : Nat) (hn : n < 131) (d : Nat) : ∀ (i k : Nat) (x : Int), i + d = n → d + 1 < k → 0 ≤ x → x ≤ 2000 + 366 * i →
    datetime_seconds.l1 k x (1970 + i) (1970 + n) a b c e f = some (wrap64 (wrap64 (wrap64 (wrap64 ((x + ycum n - ycum i) * 86400) + wrap64 (c * 3600)) + wrap64 (e * 60)) + f)) := by
  induction d with
  | zero =>
    intro i k x hi hk h0 h1
    obtain ⟨k, rfl⟩ : ∃ j, k = j + 2 := ⟨k - 2, by omega⟩
    obtain rfl : i = n := by omega
    simp only [datetime_seconds.l1]
    rw [if_neg (by omega)]
    simp only [datetime_seconds.l2]
    rw [if_neg (by omega), show x + ycum i - ycum i = x from by omega]
  | succ d ih =>
    intro i k x hi hk h0 h1
    obtain ⟨k, rfl⟩ : ∃ j, k = j + 1 := ⟨k - 1, by omega⟩
    have hr := ylen_range (1970 + i)
    have h3 := ih (i + 1) k (x + ylen (1970 + i)) (by omega) (by omega) (by omega) (by omega)
    simp only [datetime_seconds.l1]
    rw [if_pos (by omega), yearDays_is _ (by omega)]
    simp only [Option.bind_some]
    rw [wr (n := x + ylen (1970 + i)) (by omega), wr (n := 1970 + (i : Int) + 1) (by omega)]
    rw [show 1970 + (((i + 1 : Nat) : Int)) = 1970 + (i : Int) + 1 from by omega] at h3
    rw [h3]
    have e' : ycum (i + 1) = ycum i + ylen (1970 + i) := rfl
    rw [e', show x + ylen (1970 + i) + ycum n - (ycum i + ylen (1970 + i)) = x + ycum n - ycum i from by omega]
theorem seconds_back {t Y M D h mi s : Int} (ht : 315532800 ≤ t ∧ t ≤ 4102444799) (hc : ClockOf t Y M D h mi s) (k : Nat) (hk : 200 < k) : datetime_seconds.f k Y M D h mi s = some t := by
  obtain ⟨⟨n, m, hn, hm, rfl, rfl, h1, h2, h3⟩, e1, e2, e3⟩ := hc
  have hr := mlen_range (1970 + n) (m + 1) (by omega) (by omega)
  have hr2 := mcum_range (1970 + n) m (by omega)
  unfold datetime_seconds.f
  rw [wr (n := D - 1) (by omega)]
  obtain ⟨k', h4, h5⟩ := months_loop (1970 + n) (by omega) D h mi s m hm m 0 k (D - 1) (by omega) (by omega) (by omega) (by omega)
  rw [show ((0 : Nat) : Int) + 1 = 1 from rfl] at h5
  rw [h5]
  have h6 := years_loop ((m : Int) + 1) D h mi s n hn n 0 k' (D - 1 + mcum (1970 + n) m - mcum (1970 + n) 0) (by omega) (by omega) (by simp only [mcum]; omega) (by simp only [mcum]; omega)
  rw [show (1970 : Int) + ((0 : Nat) : Int) = 1970 from rfl] at h6
  rw [h6]
  simp only [mcum, ycum]
  have h7 : D - 1 + mcum (1970 + n) m - 0 + ycum n - 0 = t / 86400 := by omega
  rw [h7, wr (n := t / 86400 * 86400) (by omega), wr (n := h * 3600) (by omega), wr (n := t / 86400 * 86400 + h * 3600) (by omega), wr (n := mi * 60) (by omega), wr (n := t / 86400 * 86400 + h * 3600 + mi * 60) (by omega), wr (by omega)]
  congr 1
  omega
theorem clock_ranges {t Y M D h mi s : Int} (hc : ClockOf t Y M D h mi s) : 1970 ≤ Y ∧ Y ≤ 2100 ∧ 1 ≤ M ∧ M ≤ 12 ∧ 1 ≤ D ∧ D ≤ 31 ∧ 0 ≤ h ∧ h ≤ 23 ∧ 0 ≤ mi ∧ mi ≤ 59 ∧ 0 ≤ s ∧ s ≤ 59 := by
  obtain ⟨⟨n, m, hn, hm, rfl, rfl, h1, h2, h3⟩, e1, e2, e3⟩ := hc
  have hr := mlen_range (1970 + n) (m + 1) (by omega) (by omega)
  omega
theorem valid1_is (a b : Int) : datetime_valid_1.f a b = some (decide (0 ≤ a ∧ a ≤ b)) := by
  unfold datetime_valid_1.f
  by_cases h : a ≥ 0
  · rw [if_pos h]; congr 1; exact decide_eq_decide.mpr (by omega)
  · rw [if_neg h]; congr 1; exact (decide_eq_false (by omega)).symm
theorem valid_clock {t Y M D h mi s : Int} (hc : ClockOf t Y M D h mi s) (k : Nat) (hk : 0 < k) : datetime_valid.f k Y M D h mi s = some true := by
  have hr := clock_ranges hc
  obtain ⟨⟨n, m, hn, hm, rfl, rfl, h1, h2, h3⟩, e1, e2, e3⟩ := hc
  have hmd := monthDays_is (1970 + n) (m + 1) (by omega) (by omega) (by omega)
  rw [show (((m + 1 : Nat) : Int)) = (m : Int) + 1 from by omega] at hmd
  obtain ⟨k, rfl⟩ : ∃ j, k = j + 1 := ⟨k - 1, by omega⟩
  unfold datetime_valid.f
  rw [if_neg (by omega), if_neg (by omega), if_neg (by omega), decide_eq_false (by omega)]
  simp only [datetime_valid.j0, Bool.false_eq_true, if_false]
  rw [if_pos (by omega), hmd, valid1_is, valid1_is, valid1_is]
  simp only [Option.bind_some]
  rw [if_pos h2, decide_eq_true (p := 0 ≤ h ∧ h ≤ 23) (by omega), decide_eq_true (p := 0 ≤ mi ∧ mi ≤ 59) (by omega), decide_eq_true (p := 0 ≤ s ∧ s ≤ 59) (by omega)]
  simp
/-- The bytes of the timestamp of a clock in zone 0. -/
def stampL (Y M D h mi s : Int) : List UInt8 := ([0, 16, Y % 256, Y / 256 % 256, M % 256, D % 256, h % 256, mi % 256, s % 256, 0, 0, 0] : List Int).map fun n => UInt8.ofNat n.toNat
theorem stamp_is (t : Int) (ht : 315532800 ≤ t ∧ t ≤ 4102444799) (k : Nat) (hk : 200 < k) :
    ∃ Y M D h mi s, ClockOf t Y M D h mi s ∧ datetime_Stamp.f k t 0 = some (bs (stampL Y M D h mi s), 0) := by
  obtain ⟨Y, M, D, h, mi, s, h1, h2⟩ := split_is t ht k (by omega)
  refine ⟨Y, M, D, h, mi, s, h2, ?_⟩
  unfold datetime_Stamp.f
  rw [h1]
  simp only [Option.bind_some, if_true]
  have e1 : bits .or .i64 4096 (bits .and .i64 0 4095) % 256 = 0 := by decide
  have e2 : bits .or .i64 4096 (bits .and .i64 0 4095) / 256 % 256 = 16 := by decide
  rw [e1, e2]
  rfl
theorem bt_map (l : List Int) (i : Nat) (x : Int) (h : l[i]? = some x) (hx : 0 ≤ x ∧ x < 256) : bt (bs (l.map fun n => UInt8.ofNat n.toNat)) (i : Int) = x := by
  have hi : i < l.length := by
    rcases Nat.lt_or_ge i l.length with h' | h'
    · exact h'
    · rw [List.getElem?_eq_none h'] at h; cases h
  rw [bt_list _ i (by simpa using hi), List.getElem_map]
  rw [List.getElem?_eq_getElem hi] at h
  rw [Option.some.inj h, UInt8.toNat_ofNat']
  omega
theorem readStamp_back (t : Int) (ht : 315532800 ≤ t ∧ t ≤ 4102444799) {Y M D h mi s : Int} (hc : ClockOf t Y M D h mi s) (k : Nat) (hk : 250 < k) : datetime_ReadStamp.f k (bs (stampL Y M D h mi s)) = some (t, 0, 0) := by
  obtain ⟨k, rfl⟩ : ∃ j, k = j + 1 := ⟨k - 1, by omega⟩
  have hr := clock_ranges hc
  have b0 : bt (bs (stampL Y M D h mi s)) 0 = 0 := bt_map _ 0 _ rfl (by omega)
  have b1 : bt (bs (stampL Y M D h mi s)) 1 = 16 := bt_map _ 1 _ rfl (by omega)
  have b2 : bt (bs (stampL Y M D h mi s)) 2 = Y % 256 := bt_map _ 2 _ rfl (by omega)
  have b3 : bt (bs (stampL Y M D h mi s)) 3 = Y / 256 % 256 := bt_map _ 3 _ rfl (by omega)
  have b4 : bt (bs (stampL Y M D h mi s)) 4 = M % 256 := bt_map _ 4 _ rfl (by omega)
  have b5 : bt (bs (stampL Y M D h mi s)) 5 = D % 256 := bt_map _ 5 _ rfl (by omega)
  have b6 : bt (bs (stampL Y M D h mi s)) 6 = h % 256 := bt_map _ 6 _ rfl (by omega)
  have b7 : bt (bs (stampL Y M D h mi s)) 7 = mi % 256 := bt_map _ 7 _ rfl (by omega)
  have b8 : bt (bs (stampL Y M D h mi s)) 8 = s % 256 := bt_map _ 8 _ rfl (by omega)
  have b9 : bt (bs (stampL Y M D h mi s)) 9 = 0 := bt_map _ 9 _ rfl (by omega)
  have b10 : bt (bs (stampL Y M D h mi s)) 10 = 0 := bt_map _ 10 _ rfl (by omega)
  have b11 : bt (bs (stampL Y M D h mi s)) 11 = 0 := bt_map _ 11 _ rfl (by omega)
  unfold datetime_ReadStamp.f
  rw [if_pos (by rw [bs_size]; rfl), b0, b1, b2, b3, b4, b5, b6, b7, b8]
  have e1 : stamp_kind ((0 + 16 * 256) / 4096) (stamp_z ((0 + 16 * 256) % 4096)) = (0, true) := by decide
  have e2 : low3 (bs (stampL Y M D h mi s)) = true := by unfold low3; rw [b9, b10, b11]; rfl
  rw [e1, e2]
  simp only [Bool.and_self]
  rw [show Y % 256 + Y / 256 % 256 * 256 = Y from by omega, show M % 256 = M from by omega, show D % 256 = D from by omega, show h % 256 = h from by omega, show mi % 256 = mi from by omega, show s % 256 = s from by omega]
  unfold datetime_read.f
  rw [if_pos rfl, valid_clock hc _ (by omega)]
  simp only [Option.bind_some, Bool.not_true, datetime_read.j0, Bool.false_eq_true, if_false]
  unfold datetime_Join.f
  rw [valid_clock hc _ (by omega), isZone_is, show zoneB 0 = true from by decide, seconds_back ht hc k (by omega)]
  simp only [Option.bind_some, if_true]
  rw [wr (n := 60 * 0) (by omega), show t - 60 * 0 = t from by omega, wr (by omega), isTime_is, show timeB t = true from decide_eq_true ht]
  simp
end Go.Proofs.Yticmghpnbjhhnab.Cal
