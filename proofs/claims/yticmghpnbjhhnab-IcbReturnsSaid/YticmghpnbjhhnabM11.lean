/- Lean functions with the answers of the Go functions that they are named after, and the walks that tie the Go functions to them (written by the program mp.py of this session). -/
import Derived.Test.YticmghpnbjhhnabM0
import Derived.Test.YticmghpnbjhhnabM3
import Derived.Test.YticmghpnbjhhnabM4
import Derived.Test.YticmghpnbjhhnabM7
import Derived.Test.YticmghpnbjhhnabM8
import Derived.Test.YticmghpnbjhhnabM9
import Derived.Test.YticmghpnbjhhnabM10
namespace Go.Proofs.Yticmghpnbjhhnab.M
open Go.RowKit Go.Proofs.YticmghpnbjhhnabW.PrintWords Go.Proofs.YticmghpnbjhhnabW.PrintLast Go.Proofs.YticmghpnbjhhnabW.PrintMore
attribute [local go_sem] fieldA50_0 fieldA102_0 max2_int min2_int max_two min_two max_three min_three max_four min_four   -- for this text's walks alone
set_option linter.unusedVariables false
set_option linter.unusedSimpArgs false

/-! ### icb_Encode: function 14 -/
/-! strings.Builder at a block of type T (strings.Builder itself, or a struct that embeds one in front). -/
structure BldT (T : TypeId) : Prop where
 lies : liesAt Try.prog Try.prog.depth T (2 / Try.prog.cellsOf T) 0 56 1 = true
 ne : T ≠ 5
set_option maxHeartbeats 4000000 in
set_option maxRecDepth 100000 in
theorem bld_check (T : TypeId) (X : BldT T) (B b : Nat) (bs : List Value) (w : World) (h : Lib.IsBuilder T 5 B b bs w) :
  Calls Try.prog 49 #[.pointer (some ⟨b, 0, none⟩)] w fun e w' => e = .returned (.tuple #[]) ∧ Lib.BuilderAt T 5 B b (.pointer (some ⟨b, 0, none⟩)) bs w' ∧ (w' = w ∨ w' = w.setCell ⟨b, 0, none⟩ (.pointer (some ⟨b, 0, none⟩))) := by
 obtain ⟨j, hj, hjs⟩ := Option.map_eq_some_iff.1 (show (Try.prog.info? 56).map (·.size) = some 2 by kernel_rfl)
 have u1 : Try.prog.underlying 53 = some (.pointer 56) := by kernel_rfl
 have u2 : Try.prog.underlying 112 = some .unsafePointer := by kernel_rfl
 rcases h with h | h
 ·have c0 := h.cell0
  have f0 := h.frozen0
  go_enter Try.func49, Try.ntmps49
  go_wp2
  rw [Lib.run_to_unsafe w ⟨b, 0, none⟩ u1 u2 hj (by rw [hjs]; decide) h.shape (Nat.zero_lt_succ 1)]
  simp only [Result.andThen]
  rw [Oper.upon_value]
  go_wp2
  rw [run_callFunc_extern Try.func73 (by kernel_rfl) (by kernel_rfl) (by kernel_rfl) (e := Extern.AbiNoEscape.same) (by kernel_rfl)]
  rw [Lib.run_noEscape]
  simp only [Result.andThen]
  rw [Oper.upon_value]
  go_wp2
  rw [Lib.run_from_unsafe w ⟨b, 0, none⟩ u2 u1 hj h.shape X.lies]
  simp only [Result.andThen]
  rw [Oper.upon_value]
  go_wp2
  go_end0
  exact ⟨rfl, h.used _, .inr rfl⟩
 ·have c0 := h.cell0
  go_enter Try.func49, Try.ntmps49
  go_wp2
  rw [Lib.run_neq_ptr_same w _ u1 hj]
  go_wp2
  go_end0
  exact ⟨rfl, h, .inl rfl⟩
theorem byte_info : ∃ i, Try.prog.info? 5 = some i ∧ i.zero = some (.int .u8 0) ∧ i.size = 1 ∧ i.bytes = 1 := by
 have h : (Try.prog.info? 5).map (fun i => (i.zero, i.size, i.bytes)) = some (some (.int .u8 0), 1, 1) := by kernel_rfl
 cases hq : Try.prog.info? 5 with
 | none => rw [hq] at h; cases h
 | some i =>
  rw [hq] at h
  simp only [Option.map_some, Option.some.injEq, Prod.mk.injEq] at h
  exact ⟨i, rfl, h.1, h.2.1, h.2.2⟩
def KeptRows (b : Nat) (w w' : World) : Prop := ∀ (g : Nat) (c : Array Value) (t : TypeId), t ≠ 5 → g ≠ b → w.heap[g]? = some (.cells c t (0, 0)) → w'.heap[g]? = some (.cells c t (0, 0))
theorem heap_set_other {w : World} {b i g : Nat} {u : Value} (h : g ≠ b) : (w.setCell ⟨b, i, none⟩ u).heap[g]? = w.heap[g]? := Below.heap_setCell _ _ _ _ h
set_option maxHeartbeats 4000000 in
set_option maxRecDepth 100000 in
theorem bld_write (T : TypeId) (X : BldT T) (B b : Nat) (bs : List Value) (s : ByteArray) (w : World) (h : Lib.IsBuilder T 5 B b bs w) (hlen : bs.length + s.size ≤ 140737488355328) (hBw : B ≤ w.heap.size) :
  Calls Try.prog 27 #[.pointer (some ⟨b, 0, none⟩), .string s] w fun e w' => e = .returned (.tuple #[.int .i64 s.size, .nilIface]) ∧ Lib.IsBuilder T 5 B b (bs ++ Lib.strCells s) w' ∧ Below B w w' ∧ KeptRows b w w' := by
 obtain ⟨i0, hi, hz0, hz1, hz2⟩ := byte_info
 have u1 : Try.prog.underlying 54 = some (.slice 5) := by kernel_rfl
 have u2 : Try.prog.underlying 9 = some .string := by kernel_rfl
 have hBb : B ≤ b := by rcases h with h | h <;> exact h.1
 go_enter Try.func27, Try.ntmps27
 go_wp2_with (go_at_call 49; refine (bld_check T X B b bs _ h).mono ?_)
 rintro e w1 ⟨rfl, h1, hw1⟩
 have hb1 : Below B w w1 := by
  rcases hw1 with rfl | rfl
  ·exact Below.refl _ _
  ·exact (Below.refl B w).setCell (p := ⟨b, 0, none⟩) hBb _
 have hk1 : KeptRows b w w1 := by
  rcases hw1 with rfl | rfl
  ·exact fun g c t _ _ hg => hg
  ·exact fun g c t _ hgb hg => (heap_set_other hgb).trans hg
 have HB1 := Aside0.mk hb1
 have HK1 := Aside0.mk hk1
 have hs1 := hb1.size
 clear hw1 hb1 hk1
 obtain ⟨hB, v, hbk, hown, hne⟩ := h1
 have c0 : w1.cell? ⟨b, 0, none⟩ = some (.pointer (some ⟨b, 0, none⟩)) := by rw [Lib.cell_of_heap hbk]; rfl
 have c1 : w1.cell? ⟨b, 1, none⟩ = some v := by rw [Lib.cell_of_heap hbk]; rfl
 go_wp2_with (at_builtin; refine Lib.wpList_append_own_string _ rfl _ _ 54 9 rfl B 5 i0 u1 u2 hi hz0 hz1 hz2 _ _ _ rfl hown s rfl ?c3 ?c4 ?c5 ?_)
 case c3 => unfold maxLen; omega
 case c4 => omega
 case c5 => omega
 intro v' w2 hown' hgrow _
 have hlt : b < w1.heap.size := by
  rcases Nat.lt_or_ge b w1.heap.size with h' | h'
  ·exact h'
  ·simp [Array.getElem?_eq_none h'] at hbk
 have hb2 : w2.heap[b]? = some (.cells #[.pointer (some ⟨b, 0, none⟩), v] T (0, 0)) := by
  rw [hgrow.block b hlt (fun e => hne e.symm)]
  exact hbk
 have d0 : w2.cell? ⟨b, 0, none⟩ = some (.pointer (some ⟨b, 0, none⟩)) := by rw [Lib.cell_of_heap hb2]; rfl
 have d1 : w2.cell? ⟨b, 1, none⟩ = some v := by rw [Lib.cell_of_heap hb2]; rfl
 have f1 : w2.frozen? ⟨b, 1, none⟩ = false := Lib.frozen_of_heap hb2 1
 have hk2 : KeptRows b w (w2.setCell ⟨b, 1, none⟩ v') := by
  intro g c t ht hgb hg
  have g1 := HK1.out g c t ht hgb hg
  have hlt1 : g < w1.heap.size := (Array.getElem?_eq_some_iff.1 g1).1
  rw [heap_set_other hgb, hgrow.block g hlt1 (fun e => Lib.ownBlock_ne hown g1 ht e.symm)]
  exact g1
 have HK2 := Aside0.mk hk2
 clear hk2
 obtain ⟨ao, n', cap, rfl⟩ : ∃ ao n' cap, v' = .slice ao n' cap := by
  rcases hown'.2 with ⟨hv, _⟩ | ⟨g, cap, cur, hv, _⟩
  ·exact ⟨_, _, _, hv⟩
  ·exact ⟨_, _, _, hv⟩
 go_wp2
 go_ret2
 refine ⟨rfl, .inr ?_, ?_, HK2.out⟩
 ·exact Lib.BuilderAt.put (T := T) (e := 5) hB hb2 (bs' := bs ++ Lib.strCells s) (by simpa [Lib.strCells_length] using hown') X.ne
 ·exact (HB1.out.grown hgrow (by omega) (fun k hk => (hown.lt k hk).1)).setCell (p := ⟨b, 1, none⟩) hB _
set_option maxHeartbeats 4000000 in
set_option maxRecDepth 100000 in
theorem bld_string (T : TypeId) (X : BldT T) (B b : Nat) (l : List UInt8) (w : World) (h : Lib.IsBuilder T 5 B b (Lib.byteCells l) w) (h0 : l ≠ []) :
  Calls Try.prog 34 #[.pointer (some ⟨b, 0, none⟩)] w fun e w' => e = .returned (.string ⟨l.toArray⟩) ∧ Below B w w' := by
 obtain ⟨p, hB, v, hbk, hown, hne⟩ : ∃ p, Lib.BuilderAt T 5 B b p (Lib.byteCells l) w := by
  rcases h with h | h
  ·exact ⟨_, h⟩
  ·exact ⟨_, h⟩
 have hl0 : l.length ≠ 0 := by simpa using h0
 rw [Lib.byteCells_length] at hown
 obtain ⟨g, cap, cur, rfl, hbg, hg, hnc, hcm, hcs, htake⟩ : ∃ g cap cur, v = .slice (some ⟨g, 0, none⟩) l.length cap ∧ B ≤ g ∧ w.heap[g]? = some (.cells cur 5 (0, 0)) ∧ l.length ≤ cap ∧ cap ≤ maxLen ∧ cur.size = cap * 1 ∧ cur.toList.take (l.length * 1) = Lib.byteCells l := by
  rcases hown.2 with ⟨_, hz⟩ | ⟨g, cap, cur, hv, r⟩
  ·exact absurd hz hl0
  ·exact ⟨g, cap, cur, hv, r⟩
 have c1 : w.drew.cell? ⟨b, 1, none⟩ = some (.slice (some ⟨g, 0, none⟩) l.length cap) := by
  have : w.drew.heap[b]? = some (.cells #[p, .slice (some ⟨g, 0, none⟩) l.length cap] T (0, 0)) := hbk
  rw [Lib.cell_of_heap this]; rfl
 have hSD : (Builtin.unsafeSliceData_ #[54] 99 #[.slice (some ⟨g, 0, none⟩) l.length cap]).run Try.prog w.drew = .ok (.pointer (some ⟨g, 0, none⟩)) w.drew :=
  Lib.run_unsafeSliceData_row _ _ _ _ _ _ (by omega)
 have hUS : (Builtin.unsafeString_ #[99, 3] 9 #[.pointer (some ⟨g, 0, none⟩), .int .i64 l.length]).run Try.prog w.drew = .ok (.string ⟨l.toArray⟩) (w.drew.freeze ⟨g, 0, none⟩ l.length) := by
  refine Lib.run_unsafeString_row w.drew 99 3 9 5 (by kernel_rfl) (by kernel_rfl) g cur.size (by have hg' : w.drew.heap[g]? = some (.cells cur 5 (0, 0)) := hg; simp [World.shape?, hg']) l h0 (by omega) (by unfold maxLen at hcm; omega) ?_
  intro j x hx
  have := hown.cells (g := g) rfl j (.int .u8 x.toNat) (by simp [Lib.byteCells, hx])
  exact this
 clear hcs htake hcm
 have mixed : Try.prog.follows Departure.mixedOrders = true := by kernel_rfl
 go_enter Try.func34, Try.ntmps34
 go_wp2
 go_region_o
 all_goals (go_wp2; go_ret; exact ⟨rfl, Lib.below_freeze (Below.drew (Below.refl B w)) (p := ⟨g, 0, none⟩) hbg _⟩)

/-- The variable b at block g holds a pointer to the builder's block b; the builder has the bytes l. -/
structure EB (w : World) (B g b : Nat) (l : List UInt8) : Prop where
 var : w.heap[g]? = some (.cells #[.pointer (some ⟨b, 0, none⟩)] 52 (0, 0))
 bld : Lib.IsBuilder 58 5 B b (Lib.byteCells l) w
 ne : g ≠ b
theorem bldBody : BldT 58 := ⟨by kernel_rfl, by decide⟩
theorem strCells_byte (l : List UInt8) (s : ByteArray) : Lib.byteCells l ++ Lib.strCells s = Lib.byteCells (l ++ s.data.toList) := by
 simp [Lib.byteCells, Lib.strCells]
theorem own_below {w w1 : World} {B e n m : Nat} {v : Value} {xs : List Value} (ho : w.ownsRow B e m v n xs) (hb : Below w.heap.size w w1) : w1.ownsRow B e m v n xs := by
 refine ⟨ho.1, ?_⟩
 rcases ho.2 with h2 | ⟨q, cap, cur, hv, hq, hc, hr⟩
 ·exact .inl h2
 ·exact .inr ⟨q, cap, cur, hv, hq, blk_below hc hb, hr⟩
theorem bld_below {T : TypeId} {w w1 : World} {B b : Nat} {bs : List Value} (h : Lib.IsBuilder T 5 B b bs w) (hb : Below w.heap.size w w1) : Lib.IsBuilder T 5 B b bs w1 := by
 rcases h with ⟨h1, v, hg, ho, hn⟩ | ⟨h1, v, hg, ho, hn⟩
 ·exact .inl ⟨h1, v, blk_below hg hb, own_below ho hb, hn⟩
 ·exact .inr ⟨h1, v, blk_below hg hb, own_below ho hb, hn⟩
theorem EB.below {w w1 : World} {B g b : Nat} {l : List UInt8} (h : EB w B g b l) (hb : Below w.heap.size w w1) : EB w1 B g b l := ⟨blk_below h.var hb, bld_below h.bld hb, h.ne⟩
/-- b.WriteString(s). -/
theorem eb_write (B g b : Nat) (l : List UInt8) (s : ByteArray) (w : World) (h : EB w B g b l) (hBw : B ≤ w.heap.size) (hlen : l.length + s.size ≤ 140737488355328) :
  Calls Try.prog 27 #[.pointer (some ⟨b, 0, none⟩), .string s] w fun e w' => e = .returned (.tuple #[.int .i64 s.size, .nilIface]) ∧ EB w' B g b (l ++ s.data.toList) ∧ Below B w w' := by
 refine (bld_write 58 bldBody B b _ s w h.bld (by simpa [Lib.byteCells] using hlen) hBw).mono ?_
 rintro e w' ⟨rfl, h1, h2, h3⟩
 exact ⟨rfl, ⟨h3 _ _ _ (by decide) h.ne h.var, by rw [← strCells_byte]; exact h1, h.ne⟩, h2⟩
set_option maxHeartbeats 4000000 in
set_option maxRecDepth 100000 in
theorem encode_num (k B g b : Nat) (l : List UInt8) (n sz : Int) (s : ByteArray) (z : Int) (w : World) (h : EB w B g b l) (hBw : B ≤ w.heap.size) (hlen : l.length + s.size ≤ 140737488355328) (hf : endian_Little.f k n sz = some (s, z)) :
  Calls Try.prog 25 #[.int .i64 n, .int .i64 sz, .pointer (some ⟨g, 0, none⟩)] w fun e w' => e = .returned (.tuple #[]) ∧ EB w' B g b (l ++ s.data.toList) ∧ Below B w w' := by
 have H := Aside0.mk hf
 have HE := Aside0.mk h
 clear hf
 go_enter Try.func25, Try.ntmps25
 go_wp2_with (go_at_call 26; (with_reducible refine (endian_Little.calls k n sz s z _ H.out).mono ?_); rintro e w1 ⟨rfl, hb⟩; have HB := Aside0.mk hb; clear hb; have c0 := (blk_cell (blk_below HE.out.var HB.out) 0).trans rfl)
 have hs1 := HB.out.size
 with_reducible refine (eb_write B g b l s w1 (HE.out.below HB.out) (by omega) hlen).mono ?_
 rintro e w2 ⟨rfl, he, hb⟩
 have HE2 := Aside0.mk he
 have HB2 := Aside0.mk (Below.trans (HB.out.mono hBw) hb)
 clear he hb
 go_wp2
 go_end0
 exact ⟨rfl, HE2.out, HB2.out⟩
set_option maxHeartbeats 4000000 in
set_option maxRecDepth 100000 in
theorem encode_zeros (B g b : Nat) (l : List UInt8) (n : Int) (s : ByteArray) (w : World) (h : EB w B g b l) (hBw : B ≤ w.heap.size) (hlen : l.length + s.size ≤ 140737488355328) (hf : strings_Repeat.f (⟨#[0]⟩ : ByteArray) n = some s) :
  Calls Try.prog 28 #[.int .i64 n, .pointer (some ⟨g, 0, none⟩)] w fun e w' => e = .returned (.tuple #[]) ∧ EB w' B g b (l ++ s.data.toList) ∧ Below B w w' := by
 have H := Aside0.mk hf
 have HE := Aside0.mk h
 have c0 : w.cell? ⟨g, 0, none⟩ = some (.pointer (some ⟨b, 0, none⟩)) := (blk_cell h.var 0).trans rfl
 clear hf
 go_enter Try.func28, Try.ntmps28
 go_wp2_with fail
 refine start_ (n := 6) (S := fun w' => w'.cell? ⟨g, 0, none⟩ = some (.pointer (some ⟨b, 0, none⟩))) (ds := []) #[false, false, false, false, false, false] (by kernel_rfl) rfl rfl (c0) (fun hHeld => ?_)
 refine pure_ (i := 3) (N := some 6) (v := ?_) (a' := ?_) #[false, false, false, true, false, false] rfl rfl (by kernel_rfl) (fun _ _ _ h => h) (Or.inl ⟨by rfl, ?_⟩) ?_ ?_
 rotate_left
 ·intro w'
  go_simp
  with_reducible rfl
 rotate_left
 ·simp only [puts_]
  rfl
 refine take_ (i := 0) (N := some 3) (v := ?_) (a' := ?_) #[true, false, false, true, false, false] rfl rfl (by kernel_rfl) (fun _ _ _ h => h) (Or.inl ⟨by rfl, ?_⟩) hHeld ?_ ?_
 rotate_left
 ·intro w' s0
  go_simp
  with_reducible rfl
 rotate_left
 ·simp only [puts_]
  rfl
 refine pure_ (i := 1) (N := some 4) (v := ?_) (a' := ?_) #[true, true, false, true, false, false] rfl rfl (by kernel_rfl) (fun _ _ _ h => h) (Or.inl ⟨by rfl, ?_⟩) ?_ ?_
 rotate_left
 ·intro w'
  go_simp
  with_reducible rfl
 rotate_left
 ·simp only [puts_]
  rfl
 refine pure_ (i := 2) (N := some 5) (v := ?_) (a' := ?_) #[true, true, true, true, false, false] rfl rfl (by kernel_rfl) (fun _ _ _ h => h) (Or.inl ⟨by rfl, ?_⟩) ?_ ?_
 rotate_left
 ·intro w'
  go_simp
  with_reducible rfl
 rotate_left
 ·simp only [puts_]
  rfl
 refine one_ (i := 4) (N := some 7) #[true, true, true, true, true, false] rfl rfl (by kernel_rfl) (by decide) (fun K hK => ?_)
 refine goes_ Try.func29 (by kernel_rfl) rfl #[.string (⟨#[0]⟩ : ByteArray), .int .i64 n] (by rfl) rfl rfl (by simp only [List.map_toArray, List.map_cons, List.map_nil]; rfl) ?_
 with_reducible refine (strings_Repeat.calls (⟨#[0]⟩ : ByteArray) n s _ H.out).mono ?_
 rintro e w1 ⟨rfl, hb⟩
 refine ⟨_, rfl, ?_⟩
 have HE1 := Aside0.mk (EB.below (w := w.drew) ⟨HE.out.var, bld_below HE.out.bld ⟨rfl, rfl, rfl, Nat.le_refl _, fun _ _ => rfl⟩, HE.out.ne⟩ hb)
 have HB1 := Aside0.mk (Below.trans (Below.drew (Below.refl B w)) (hb.mono hBw))
 have HS1 := HB1.out.size
 clear hb
 refine hK.out _ _ ((blk_cell HE1.out.var 0).trans rfl) (fun hHeld => ?_)
 clear hK K
 refine norm_ (a' := ?_) ?_ ?_
 rotate_left
 ·show Act.put _ (some 7) _ = _
  simp only [puts_]
  rfl
 refine one_ (i := 5) (N := some 8) #[true, true, true, true, true, true] rfl rfl (by kernel_rfl) (by decide) (fun K hK => ?_)
 refine goes_ Try.func27 (by kernel_rfl) rfl #[.pointer (some ⟨b, 0, none⟩), .string s] (by rfl) rfl rfl (by simp only [List.map_toArray, List.map_cons, List.map_nil]; rfl) ?_
 with_reducible refine (eb_write B g b l s _ HE1.out (by omega) hlen).mono ?_
 rintro e w2 ⟨rfl, he, hb⟩
 refine ⟨_, rfl, ?_⟩
 have HE2 := Aside0.mk he
 have HB2 := Aside0.mk (Below.trans HB1.out hb)
 clear he hb
 refine hK.out _ _ ((blk_cell HE2.out.var 0).trans rfl) (fun hHeld => ?_)
 clear hK K
 refine norm_ (a' := ?_) ?_ ?_
 rotate_left
 ·show Act.put _ (some 8) _ = _
  simp only [puts_]
  rfl
 refine done_ (by kernel_rfl) ?_
 go_wp2
 go_end0
 exact ⟨rfl, HE2.out, HB2.out⟩

theorem goesCL_ {P : Program} {ops : Array Oper} {Q : Exit → Act → World → Prop} {rest : List Oper} {oi : Oper} {a : Act} {w : World} (N : Option Tmp) (hd : oi.dst = N) (hg : oi.guard = none) {f : FuncId} {fn : Func} {xs : Array Operand} {ts : Array TypeId} (cap : Array Value) (hf : P.funcs[f]? = some fn) (hname : (fn.name == "runtime.NumGoroutine") = false) (hb : fn.body.isSome = true) (args : Array Value)
  (hop : ∃ x, oi.op = .call { callee := .value x, args := xs, argTypes := ts } ∧ a.eval x = .func (.func f) #[] cap) (hargs : xs.map a.eval ++ cap = args)
  (h : Calls P f args w fun e w' => ∃ v, e = .returned v ∧ wpList P ops Q rest (a.put N v) w') : wpList P ops Q (oi :: rest) a w := by
 refine wpList_plain hg fun K hK => ?_
 have he := enters_ hf hname hb args w
 obtain ⟨x, hop, hx⟩ := hop
 have hrun : (execOp a.eval oi).run P w = .ok (.enter f args) w := by
  unfold execOp
  simp [hop, resolve, Deferred.ofValue, invoke, hx, hargs, he]
 unfold Oper.wp
 rw [hrun, Oper.upon_enter]
 refine h.mono fun e w'' hh => ?_
 obtain ⟨v, rfl, hk⟩ := hh
 subst hd
 exact hK _ _ hk
theorem load_box {P : Program} {ops : Array Oper} {rest : List Oper} {op : Oper} {a : Act} {w : World} {Q : Exit → Act → World → Prop} (hgd : op.guard = none) (ty : TypeId) (x : Operand) (ho : op.op = .load ty x)
  (g : Nat) (hx : a.eval x = .pointer (some ⟨g, 0, none⟩)) {t : TypeId} (cs : Array Value) {fr : Nat × Nat} (d : TypeDesc) (hg : w.heap[g]? = some (.cells cs t fr))
  (hu : P.underlying ty = some d) (hd : (match d with | .struct _ | .array _ _ => true | _ => false) = true) (hi : (P.info? ty).map (·.size) = some cs.size) (h : wpList P ops Q rest (a.put op.dst (.agg cs)) w) : wpList P ops Q (op :: rest) a w :=
 wpList_plain hgd fun _ hK => wp_load_row ty x ho g hx t cs fr d hg hu hd hi (hK _ _ h)
/-- While icb.Encode collects bytes: the variable b at g, the builder at b with the bytes l, the entry's box at bx (below B). -/
structure EC (w0 w : World) (B bx g b : Nat) (cs : Array Value) (l : List UInt8) (m : Nat) : Prop where
 eb : EB w B g b l
 blw : Below w0.heap.size w0 w
 sz : B ≤ w.heap.size
 lo : w0.heap.size ≤ bx
 bxB : bx < B
 box : w.heap[bx]? = some (.cells cs 31 (0, 0))
 len : l.length ≤ 4096 * m
theorem EC.next {w0 w w1 : World} {B bx g b m : Nat} {cs : Array Value} {l l1 : List UInt8} (h : EC w0 w B bx g b cs l m) (he : EB w1 B g b l1) (hb : Below B w w1) (hl : l1.length ≤ 4096 * (m + 1)) : EC w0 w1 B bx g b cs l1 (m + 1) :=
 ⟨he, h.blw.trans (hb.mono (by have := h.lo; have := h.bxB; omega)), Nat.le_trans h.sz hb.size, h.lo, h.bxB, (hb.block bx h.bxB).trans h.box, hl⟩
theorem EC.below {w0 w w1 : World} {B bx g b m : Nat} {cs : Array Value} {l : List UInt8} (h : EC w0 w B bx g b cs l m) (hb : Below w.heap.size w w1) : EC w0 w1 B bx g b cs l m :=
 ⟨h.eb.below hb, below_then h.blw h.blw.size hb, Nat.le_trans h.sz hb.size, h.lo, h.bxB, blk_below h.box hb, h.len⟩
theorem EC.up {w0 w : World} {B bx g b m : Nat} {cs : Array Value} {l : List UInt8} (h : EC w0 w B bx g b cs l m) : EC w0 w B bx g b cs (l ++ []) (m + 1) :=
 ⟨by rw [List.append_nil]; exact h.eb, h.blw, h.sz, h.lo, h.bxB, h.box, by rw [List.append_nil]; have := h.len; omega⟩
theorem EC.drew {w0 w : World} {B bx g b m : Nat} {cs : Array Value} {l : List UInt8} (h : EC w0 w B bx g b cs l m) : EC w0 w.drew B bx g b cs l m := h.below (Below.drew (Below.refl _ _))
theorem EC.var {w0 w : World} {B bx g b m : Nat} {cs : Array Value} {l : List UInt8} (h : EC w0 w B bx g b cs l m) : w.cell? ⟨g, 0, none⟩ = some (.pointer (some ⟨b, 0, none⟩)) := (blk_cell h.eb.var 0).trans rfl
def enc_raw (s : ByteArray) : Option (List UInt8) := if s.size ≤ 4096 then some s.data.toList else none
def enc_num (k : Nat) (n sz : Int) : Option (List UInt8) := (endian_Little.f k n sz).bind fun t => enc_raw t.1
def enc_zero (n : Int) : Option (List UInt8) := (strings_Repeat.f (⟨#[0]⟩ : ByteArray) n).bind fun s => enc_raw s
theorem enc_num.mono (n sz : Int) (k : Nat) : LeO (enc_num k n sz) (enc_num (k + 1) n sz) := LeO.bind (endian_Little.mono _ _ _) (fun _ => LeO.refl _)
theorem enc_raw_some {s : ByteArray} {p : List UInt8} (h : enc_raw s = some p) : s.size ≤ 4096 ∧ s.data.toList = p := by
 unfold enc_raw at h
 split at h
 ·exact ⟨by assumption, Option.some.inj h⟩
 ·cases h
theorem data_len (s : ByteArray) : s.data.toList.length = s.size := by rw [Array.length_toList]; rfl
theorem ec_write {w0 w : World} {B bx g b m : Nat} {cs : Array Value} {l p : List UInt8} {s : ByteArray} (h : EC w0 w B bx g b cs l m) (hm : m ≤ 1000) (hf : enc_raw s = some p) :
  Calls Try.prog 27 #[.pointer (some ⟨b, 0, none⟩), .string s] w fun e w' => e = .returned (.tuple #[.int .i64 s.size, .nilIface]) ∧ EC w0 w' B bx g b cs (l ++ p) (m + 1) := by
 obtain ⟨h1, rfl⟩ := enc_raw_some hf
 have hlen := h.len
 refine (eb_write B g b l s w h.eb h.sz (by omega)).mono ?_
 rintro e w' ⟨rfl, he, hb⟩
 exact ⟨rfl, h.next he hb (by rw [List.length_append, data_len]; omega)⟩
theorem ec_num {w0 w : World} {B bx g b m k : Nat} {cs : Array Value} {l p : List UInt8} {n sz : Int} (h : EC w0 w B bx g b cs l m) (hm : m ≤ 1000) (hf : enc_num k n sz = some p) :
  Calls Try.prog 25 #[.int .i64 n, .int .i64 sz, .pointer (some ⟨g, 0, none⟩)] w fun e w' => e = .returned (.tuple #[]) ∧ EC w0 w' B bx g b cs (l ++ p) (m + 1) := by
 obtain ⟨⟨s, z⟩, h2, h3⟩ := Option.bind_eq_some_iff.1 hf
 replace h3 : enc_raw s = some p := h3
 obtain ⟨h1, rfl⟩ := enc_raw_some h3
 have hlen := h.len
 refine (encode_num k B g b l n sz s z w h.eb h.sz (by omega) h2).mono ?_
 rintro e w' ⟨rfl, he, hb⟩
 exact ⟨rfl, h.next he hb (by rw [List.length_append, data_len]; omega)⟩
theorem ec_zero {w0 w : World} {B bx g b m : Nat} {cs : Array Value} {l p : List UInt8} {n : Int} (h : EC w0 w B bx g b cs l m) (hm : m ≤ 1000) (hf : enc_zero n = some p) :
  Calls Try.prog 28 #[.int .i64 n, .pointer (some ⟨g, 0, none⟩)] w fun e w' => e = .returned (.tuple #[]) ∧ EC w0 w' B bx g b cs (l ++ p) (m + 1) := by
 obtain ⟨s, h2, h3⟩ := Option.bind_eq_some_iff.1 hf
 replace h3 : enc_raw s = some p := h3
 obtain ⟨h1, rfl⟩ := enc_raw_some h3
 have hlen := h.len
 refine (encode_zeros B g b l n s w h.eb h.sz (by omega) h2).mono ?_
 rintro e w' ⟨rfl, he, hb⟩
 exact ⟨rfl, h.next he hb (by rw [List.length_append, data_len]; omega)⟩
theorem ec_fresh {w0 w : World} {bx : Nat} {cs : Array Value} (hb : Below w0.heap.size w0 w) (lo : w0.heap.size ≤ bx) (hbx : w.heap[bx]? = some (.cells cs 31 (0, 0))) :
  EC w0 ((w.alloc (.cells #[.pointer none, .slice none 0 0] 58 (0, 0))).alloc (.cells #[.pointer (some ⟨w.heap.size, 0, none⟩)] 52 (0, 0))) w.heap.size bx (w.heap.size + 1) w.heap.size cs [] 0 := by
 have hlt := blk_lt hbx
 have hs1 : (w.alloc (.cells #[.pointer none, .slice none 0 0] 58 (0, 0))).heap.size = w.heap.size + 1 := Array.size_push ..
 have hw1 := Lib.fresh_isBuilder 58 5 w
 have hb1 : Below w.heap.size w (w.alloc (.cells #[.pointer none, .slice none 0 0] 58 (0, 0))) := below_alloc (Below.refl _ _) _
 have hb2 : Below w.heap.size w ((w.alloc (.cells #[.pointer none, .slice none 0 0] 58 (0, 0))).alloc (.cells #[.pointer (some ⟨w.heap.size, 0, none⟩)] 52 (0, 0))) := below_alloc hb1 _
 have hb3 : Below (w.alloc (.cells #[.pointer none, .slice none 0 0] 58 (0, 0))).heap.size (w.alloc (.cells #[.pointer none, .slice none 0 0] 58 (0, 0))) ((w.alloc (.cells #[.pointer none, .slice none 0 0] 58 (0, 0))).alloc (.cells #[.pointer (some ⟨w.heap.size, 0, none⟩)] 52 (0, 0))) := below_alloc (Below.refl _ _) _
 refine ⟨⟨?_, bld_below hw1 hb3, by omega⟩, below_then hb hb.size hb2, hb2.size, lo, hlt, blk_below hbx hb2, by simp⟩
 have := blk_new (w.alloc (.cells #[.pointer none, .slice none 0 0] 58 (0, 0))) (.cells #[.pointer (some ⟨w.heap.size, 0, none⟩)] 52 (0, 0))
 rw [hs1] at this
 exact this
def z16 : ByteArray := ⟨(Lib.repeatL [0] 16).toArray⟩
theorem rep16 : strings_Repeat.f (⟨#[0]⟩ : ByteArray) 16 = some z16 := by
 unfold strings_Repeat.f
 rw [if_pos ⟨by decide, by decide, by decide⟩]
 rfl

def encode_all (p1 p2 p3 p4 p5 p6 p7 p8 p9 p10 p11 p12 p13 p14 p15 p16 p17 p18 p19 p20 p21 p22 p23 p24 p25 p26 p27 p28 : List UInt8) : List UInt8 := ((((((((((((((((((((((((((((([] : List UInt8) ++ p1) ++ p2) ++ p3) ++ p4) ++ p5) ++ p6) ++ p7) ++ p8) ++ p9) ++ p10) ++ p11) ++ p12) ++ p13) ++ p14) ++ p15) ++ p16) ++ p17) ++ p18) ++ p19) ++ p20) ++ p21) ++ p22) ++ p23) ++ p24) ++ p25) ++ p26) ++ p27) ++ p28)
def encode_pieces (k : Nat) (a0_0 : Bool) (a0_1 : Int) (a0_2 : Int) (a0_3 : Int) (a0_4 : Int) (a0_5 : Int) (a0_6 : Int) (a0_7 : Int) (a0_8 : Int) (a0_9 : Int) (a0_10 : Bool) (a0_11 : ByteArray) (l0_12 : List (S69)) (a0_13 : ByteArray) (a0_14 : Bool) (a0_15 : Int) (a0_16 : Int) (tl : ByteArray) (kd pf1 pf2 : Int) (st : ByteArray) : Option (List UInt8) := (enc_num k 0 4).bind fun p1 => (enc_num k 4 2).bind fun p2 => (enc_num k 0 2).bind fun p3 => (enc_num k 1 2).bind fun p4 => (enc_num k 0 1).bind fun p5 => (enc_num k a0_1 1).bind fun p6 => (enc_zero 6).bind fun p7 => (enc_num k (wrap64 (pf2 + kd)) 2).bind fun p8 => (enc_num k a0_3 4).bind fun p9 => (enc_num k a0_4 4).bind fun p10 => (enc_num k pf1 4).bind fun p11 => (enc_num k a0_6 2).bind fun p12 => (enc_zero 6).bind fun p13 => (enc_num k a0_8 8).bind fun p14 => (if a0_0 = true then enc_num k a0_9 8 else some []).bind fun p15 => (allocation_Blocks.f k l0_12).bind fun bl => (enc_num k bl 8).bind fun p16 => (enc_raw (st ++ st)).bind fun p17 => (if a0_0 = true then enc_raw st else some []).bind fun p18 => (enc_raw st).bind fun p19 => (enc_num k 1 4).bind fun p20 => (if a0_0 = true then enc_zero 4 else some []).bind fun p21 => (enc_zero 16).bind fun p22 => (if a0_0 = true then (if a0_14 = true then (allocation_EncodeLong.f k [(⟨0, 2048, (⟨a0_15, a0_16⟩ : S29)⟩ : S69)]).bind fun t => enc_raw t.1 else enc_zero 16) else some []).bind fun p23 => (udfstring_Entity.f k (⟨#[42, 109, 97, 115, 116, 101, 114, 100, 105, 115, 99]⟩ : ByteArray) (⟨#[]⟩ : ByteArray)).bind fun en => (enc_raw en.1).bind fun p24 => (enc_num k a0_7 8).bind fun p25 => (enc_num k (a0_13.size : Int) 4).bind fun p26 => (enc_num k (tl.size : Int) 4).bind fun p27 => (enc_raw (a0_13 ++ tl)).bind fun p28 => some (encode_all p1 p2 p3 p4 p5 p6 p7 p8 p9 p10 p11 p12 p13 p14 p15 p16 p17 p18 p19 p20 p21 p22 p23 p24 p25 p26 p27 p28)
def encode_tail (k : Nat) (a0_10 : Bool) (a0_11 : ByteArray) (l0_12 : List (S69)) : Option (ByteArray × Int) := if a0_10 = true then some (a0_11, 3) else (allocation_EncodeLong.f k l0_12).bind fun t => some (t.1, 1)
def encode_rest (k : Nat) (a0_0 : Bool) (a0_1 : Int) (a0_2 : Int) (a0_3 : Int) (a0_4 : Int) (a0_5 : Int) (a0_6 : Int) (a0_7 : Int) (a0_8 : Int) (a0_9 : Int) (a0_10 : Bool) (a0_11 : ByteArray) (l0_12 : List (S69)) (a0_13 : ByteArray) (a0_14 : Bool) (a0_15 : Int) (a0_16 : Int) (a1 : Int) (tl : ByteArray) (kd fm1 : Int) : Option (ByteArray × Int) := if wrap64 ((a0_13.size : Int) + (tl.size : Int)) > wrap64 (2048 - fm1) then some ((⟨#[]⟩ : ByteArray), 12) else (icb_Permissions.f k a0_2).bind fun pf => (datetime_Stamp.f k a0_5 0).bind fun st => (encode_pieces k a0_0 a0_1 a0_2 a0_3 a0_4 a0_5 a0_6 a0_7 a0_8 a0_9 a0_10 a0_11 l0_12 a0_13 a0_14 a0_15 a0_16 tl kd pf.1 pf.2 st.1).bind fun l => if l = [] then none else udftag_Block.f k (if a0_0 = true then 266 else 261) 1 a1 ⟨l.toArray⟩
def icb_Encode.f (k : Nat) (a0_0 : Bool) (a0_1 : Int) (a0_2 : Int) (a0_3 : Int) (a0_4 : Int) (a0_5 : Int) (a0_6 : Int) (a0_7 : Int) (a0_8 : Int) (a0_9 : Int) (a0_10 : Bool) (a0_11 : ByteArray) (l0_12 : List (S69)) (a0_13 : ByteArray) (a0_14 : Bool) (a0_15 : Int) (a0_16 : Int) (a1 : Int) : Option (ByteArray × Int) := (icb_Valid.f k a0_0 a0_1 a0_2 a0_3 a0_4 a0_5 a0_6 a0_7 a0_8 a0_9 a0_10 a0_11 l0_12 a0_13 a0_14 a0_15 a0_16).bind fun v => if v = true then ((icb_within.f a1 0 4294967295).bind fun v2 => if v2 = true then ((encode_tail k a0_10 a0_11 l0_12).bind fun tk => (icb_forms.f a0_0).bind fun fm => encode_rest k a0_0 a0_1 a0_2 a0_3 a0_4 a0_5 a0_6 a0_7 a0_8 a0_9 a0_10 a0_11 l0_12 a0_13 a0_14 a0_15 a0_16 a1 tk.1 tk.2 fm.1) else some ((⟨#[]⟩ : ByteArray), 2)) else some ((⟨#[]⟩ : ByteArray), 1)
theorem if_tt {α : Type} {a b : α} : (if true = true then a else b) = a := rfl
theorem if_ff {α : Type} {a b : α} : (if false = true then a else b) = b := rfl
theorem encode_tail.mono (a : Bool) (b : ByteArray) (c : List (S69)) (k : Nat) : LeO (encode_tail k a b c) (encode_tail (k + 1) a b c) := by
 unfold encode_tail
 repeat' first
   | (with_reducible exact icb_Valid.mono _ _ _ _ _ _ _ _ _ _ _ _ _ _ _ _ _ _)
   | (with_reducible exact allocation_EncodeLong.mono _ _)
   | (with_reducible exact enc_num.mono _ _ _)
   | (with_reducible exact icb_Permissions.mono _ _)
   | (with_reducible exact datetime_Stamp.mono _ _ _)
   | (with_reducible exact allocation_Blocks.mono _ _)
   | (with_reducible exact udfstring_Entity.mono _ _ _)
   | (with_reducible exact udftag_Block.mono _ _ _ _ _)
   | (with_reducible exact LeO.refl _)
   | (with_reducible exact LeO.none _)
   | (with_reducible refine LeO.ite ?_ ?_)
   | (with_reducible refine LeO.bind ?_ (fun _ => ?_))
theorem encode_pieces.mono (a0_0 : Bool) (a0_1 : Int) (a0_2 : Int) (a0_3 : Int) (a0_4 : Int) (a0_5 : Int) (a0_6 : Int) (a0_7 : Int) (a0_8 : Int) (a0_9 : Int) (a0_10 : Bool) (a0_11 : ByteArray) (l0_12 : List (S69)) (a0_13 : ByteArray) (a0_14 : Bool) (a0_15 : Int) (a0_16 : Int) (tl : ByteArray) (kd pf1 pf2 : Int) (st : ByteArray) (k : Nat) : LeO (encode_pieces k a0_0 a0_1 a0_2 a0_3 a0_4 a0_5 a0_6 a0_7 a0_8 a0_9 a0_10 a0_11 l0_12 a0_13 a0_14 a0_15 a0_16 tl kd pf1 pf2 st) (encode_pieces (k + 1) a0_0 a0_1 a0_2 a0_3 a0_4 a0_5 a0_6 a0_7 a0_8 a0_9 a0_10 a0_11 l0_12 a0_13 a0_14 a0_15 a0_16 tl kd pf1 pf2 st) := by
 unfold encode_pieces
 repeat' first
   | (with_reducible exact icb_Valid.mono _ _ _ _ _ _ _ _ _ _ _ _ _ _ _ _ _ _)
   | (with_reducible exact allocation_EncodeLong.mono _ _)
   | (with_reducible exact enc_num.mono _ _ _)
   | (with_reducible exact icb_Permissions.mono _ _)
   | (with_reducible exact datetime_Stamp.mono _ _ _)
   | (with_reducible exact allocation_Blocks.mono _ _)
   | (with_reducible exact udfstring_Entity.mono _ _ _)
   | (with_reducible exact udftag_Block.mono _ _ _ _ _)
   | (with_reducible exact LeO.refl _)
   | (with_reducible exact LeO.none _)
   | (with_reducible refine LeO.ite ?_ ?_)
   | (with_reducible refine LeO.bind ?_ (fun _ => ?_))
theorem encode_rest.mono (a0_0 : Bool) (a0_1 : Int) (a0_2 : Int) (a0_3 : Int) (a0_4 : Int) (a0_5 : Int) (a0_6 : Int) (a0_7 : Int) (a0_8 : Int) (a0_9 : Int) (a0_10 : Bool) (a0_11 : ByteArray) (l0_12 : List (S69)) (a0_13 : ByteArray) (a0_14 : Bool) (a0_15 : Int) (a0_16 : Int) a1 tl kd fm1 k : LeO (encode_rest k a0_0 a0_1 a0_2 a0_3 a0_4 a0_5 a0_6 a0_7 a0_8 a0_9 a0_10 a0_11 l0_12 a0_13 a0_14 a0_15 a0_16 a1 tl kd fm1) (encode_rest (k + 1) a0_0 a0_1 a0_2 a0_3 a0_4 a0_5 a0_6 a0_7 a0_8 a0_9 a0_10 a0_11 l0_12 a0_13 a0_14 a0_15 a0_16 a1 tl kd fm1) := by
 unfold encode_rest
 repeat' first
   | (with_reducible exact icb_Valid.mono _ _ _ _ _ _ _ _ _ _ _ _ _ _ _ _ _ _)
   | (with_reducible exact allocation_EncodeLong.mono _ _)
   | (with_reducible exact enc_num.mono _ _ _)
   | (with_reducible exact icb_Permissions.mono _ _)
   | (with_reducible exact datetime_Stamp.mono _ _ _)
   | (with_reducible exact allocation_Blocks.mono _ _)
   | (with_reducible exact udfstring_Entity.mono _ _ _)
   | (with_reducible exact udftag_Block.mono _ _ _ _ _)
   | (with_reducible exact LeO.refl _)
   | (with_reducible exact LeO.none _)
   | (with_reducible refine LeO.ite ?_ ?_)
   | (with_reducible refine LeO.bind ?_ (fun _ => ?_))
   | (with_reducible exact encode_tail.mono _ _ _ _)
   | (with_reducible exact encode_pieces.mono _ _ _ _ _ _ _ _ _ _ _ _ _ _ _ _ _ _ _ _ _ _ _)
theorem icb_Encode.mono : ∀ a0_0 a0_1 a0_2 a0_3 a0_4 a0_5 a0_6 a0_7 a0_8 a0_9 a0_10 a0_11 l0_12 a0_13 a0_14 a0_15 a0_16 a1 k, LeO (icb_Encode.f k a0_0 a0_1 a0_2 a0_3 a0_4 a0_5 a0_6 a0_7 a0_8 a0_9 a0_10 a0_11 l0_12 a0_13 a0_14 a0_15 a0_16 a1) (icb_Encode.f (k + 1) a0_0 a0_1 a0_2 a0_3 a0_4 a0_5 a0_6 a0_7 a0_8 a0_9 a0_10 a0_11 l0_12 a0_13 a0_14 a0_15 a0_16 a1) := by
 intro a0_0 a0_1 a0_2 a0_3 a0_4 a0_5 a0_6 a0_7 a0_8 a0_9 a0_10 a0_11 l0_12 a0_13 a0_14 a0_15 a0_16 a1 k
 unfold icb_Encode.f
 repeat' first
   | (with_reducible exact icb_Valid.mono _ _ _ _ _ _ _ _ _ _ _ _ _ _ _ _ _ _)
   | (with_reducible exact allocation_EncodeLong.mono _ _)
   | (with_reducible exact enc_num.mono _ _ _)
   | (with_reducible exact icb_Permissions.mono _ _)
   | (with_reducible exact datetime_Stamp.mono _ _ _)
   | (with_reducible exact allocation_Blocks.mono _ _)
   | (with_reducible exact udfstring_Entity.mono _ _ _)
   | (with_reducible exact udftag_Block.mono _ _ _ _ _)
   | (with_reducible exact LeO.refl _)
   | (with_reducible exact LeO.none _)
   | (with_reducible refine LeO.ite ?_ ?_)
   | (with_reducible refine LeO.bind ?_ (fun _ => ?_))
   | (with_reducible exact encode_tail.mono _ _ _ _)
   | (with_reducible exact encode_rest.mono _ _ _ _ _ _ _ _ _ _ _ _ _ _ _ _ _ _ _ _ _ _)
theorem C_one (w : World) (g : Nat) (x : S69) (hb : w.heap[g]? = some (.cells #[.int .i64 x.f0, .int .i64 x.f1, .int .i64 x.f2.f0, .int .i64 x.f2.f1] 69 (0, 0))) : Kd.C k69 w (some ⟨g, 0, none⟩) 1 [x] := by
 refine ⟨by simp, by simp [maxLen], fun hp => ⟨⟨g, 0, none⟩, rfl, fun j q hj => ?_⟩⟩
 match j, hj with
 | 0, hj =>
  obtain rfl : x = q := by simpa using hj
  refine ⟨[.int .i64 x.f0, .int .i64 x.f1, .int .i64 x.f2.f0, .int .i64 x.f2.f1], rfl, k69_mk w x, fun i u hi => ?_⟩
  have e : (⟨g, 0, none⟩ : Addr).add (0 * Kd.sz k69 + i) = ⟨g, i, none⟩ := by simp [Addr.add]; try omega
  rw [e, blk_cell hb i]
  rw [← hi]
  simp
 | j + 1, hj => simp at hj
set_option maxHeartbeats 8000000 in
set_option maxRecDepth 100000 in
theorem icb_Encode.calls (k : Nat) (a0_0 : Bool) (a0_1 : Int) (a0_2 : Int) (a0_3 : Int) (a0_4 : Int) (a0_5 : Int) (a0_6 : Int) (a0_7 : Int) (a0_8 : Int) (a0_9 : Int) (a0_10 : Bool) (a0_11 : ByteArray) (A0_12 : Option Addr) (c0_12 : Nat) (l0_12 : List (S69)) (a0_13 : ByteArray) (a0_14 : Bool) (a0_15 : Int) (a0_16 : Int) (a1 : Int) (r1 : ByteArray) (r2 : Int) (w : World) (hr0_12 : Kd.C k69 w A0_12 l0_12.length l0_12) (hc0_12 : l0_12.length ≤ c0_12) (h : icb_Encode.f k a0_0 a0_1 a0_2 a0_3 a0_4 a0_5 a0_6 a0_7 a0_8 a0_9 a0_10 a0_11 l0_12 a0_13 a0_14 a0_15 a0_16 a1 = some (r1, r2)) :
  Calls Try.prog 14 #[.agg #[.bool a0_0, .int .i64 a0_1, .int .i64 a0_2, .int .i64 a0_3, .int .i64 a0_4, .int .i64 a0_5, .int .i64 a0_6, .int .i64 a0_7, .int .i64 a0_8, .int .i64 a0_9, .bool a0_10, .string a0_11, .slice A0_12 l0_12.length c0_12, .string a0_13, .bool a0_14, .int .i64 a0_15, .int .i64 a0_16], .int .i64 a1] w fun e w' => e = .returned (.tuple #[.string r1, .int .i64 r2]) ∧ Below w.heap.size w w' := by
 have HR := Aside0.mk hr0_12
 have HC := Aside0.mk hc0_12
 have hu26 := Try.underlying31
 have hu24 := Try.underlying29
 have hu44 := Try.underlying50
 clear hr0_12 hc0_12
 have HB := Aside0.mk (Below.refl w.heap.size w)
 unfold icb_Encode.f at h
 obtain ⟨v, h1, h⟩ := Option.bind_eq_some_iff.1 h
 have HV := Aside0.mk h1
 clear h1
 have HH := Aside0.mk h
 clear h
 cases v
 ·have h := if_ff.symm.trans HH.out
  obtain ⟨rfl, rfl⟩ := Prod.mk.inj (Option.some.inj h)
  clear h HH
  go_enter Try.func14, Try.ntmps14
  go_upto_region 1 with (first | ((with_reducible refine gate_dst (N := 2) rfl ?_); refine box_event ?hg (N := 2) ?hd (cs := #[.bool a0_0, .int .i64 a0_1, .int .i64 a0_2, .int .i64 a0_3, .int .i64 a0_4, .int .i64 a0_5, .int .i64 a0_6, .int .i64 a0_7, .int .i64 a0_8, .int .i64 a0_9, .bool a0_10, .string a0_11, .slice A0_12 l0_12.length c0_12, .string a0_13, .bool a0_14, .int .i64 a0_15, .int .i64 a0_16]) (t := 31) ?hr ?_; (case hd => rfl); (case hg => rfl); (case hr => first | (go_simp; done) | (go_simp; rfl)); intro gx hg w1 hbox hb; have GX := Aside0.mk (show w.heap.size ≤ gx by rw [hg]; exact Nat.le_refl _); have HB1 := Aside0.mk (below_step HB.out hb); have BX1 := Aside0.mk hbox; clear HB hb hbox hg))
  go_wp2_with (first | ((with_reducible refine gate_dst (N := 20) rfl ?_); refine load_box rfl 31 _ rfl gx rfl #[.bool a0_0, .int .i64 a0_1, .int .i64 a0_2, .int .i64 a0_3, .int .i64 a0_4, .int .i64 a0_5, .int .i64 a0_6, .int .i64 a0_7, .int .i64 a0_8, .int .i64 a0_9, .bool a0_10, .string a0_11, .slice A0_12 l0_12.length c0_12, .string a0_13, .bool a0_14, .int .i64 a0_15, .int .i64 a0_16] _ BX1.out Try.underlying31 rfl (by kernel_rfl) ?_))
  with_reducible refine (icb_Valid.calls k a0_0 a0_1 a0_2 a0_3 a0_4 a0_5 a0_6 a0_7 a0_8 a0_9 a0_10 a0_11 A0_12 c0_12 l0_12 a0_13 a0_14 a0_15 a0_16 false _ (Kd.C_below HR.out HB1.out) HC.out HV.out).mono ?_
  rintro e w2 ⟨rfl, hb⟩
  have HB2 := Aside0.mk (below_step HB1.out hb)
  have BX2 := Aside0.mk (blk_below BX1.out hb)
  clear hb HB1 BX1
  go_wp2
  go_ret2
  exact ⟨rfl, HB2.out⟩
 have h := if_tt.symm.trans HH.out
 clear HH
 obtain ⟨v2, h1, h⟩ := Option.bind_eq_some_iff.1 h
 have HW := Aside0.mk h1
 have HH := Aside0.mk h
 clear h1 h
 cases v2
 ·have h := if_ff.symm.trans HH.out
  obtain ⟨rfl, rfl⟩ := Prod.mk.inj (Option.some.inj h)
  clear h HH
  go_enter Try.func14, Try.ntmps14
  go_upto_region 1 with (first | ((with_reducible refine gate_dst (N := 2) rfl ?_); refine box_event ?hg (N := 2) ?hd (cs := #[.bool a0_0, .int .i64 a0_1, .int .i64 a0_2, .int .i64 a0_3, .int .i64 a0_4, .int .i64 a0_5, .int .i64 a0_6, .int .i64 a0_7, .int .i64 a0_8, .int .i64 a0_9, .bool a0_10, .string a0_11, .slice A0_12 l0_12.length c0_12, .string a0_13, .bool a0_14, .int .i64 a0_15, .int .i64 a0_16]) (t := 31) ?hr ?_; (case hd => rfl); (case hg => rfl); (case hr => first | (go_simp; done) | (go_simp; rfl)); intro gx hg w1 hbox hb; have GX := Aside0.mk (show w.heap.size ≤ gx by rw [hg]; exact Nat.le_refl _); have HB1 := Aside0.mk (below_step HB.out hb); have BX1 := Aside0.mk hbox; clear HB hb hbox hg))
  go_wp2_with (first | ((with_reducible refine gate_dst (N := 20) rfl ?_); refine load_box rfl 31 _ rfl gx rfl #[.bool a0_0, .int .i64 a0_1, .int .i64 a0_2, .int .i64 a0_3, .int .i64 a0_4, .int .i64 a0_5, .int .i64 a0_6, .int .i64 a0_7, .int .i64 a0_8, .int .i64 a0_9, .bool a0_10, .string a0_11, .slice A0_12 l0_12.length c0_12, .string a0_13, .bool a0_14, .int .i64 a0_15, .int .i64 a0_16] _ BX1.out Try.underlying31 rfl (by kernel_rfl) ?_))
  with_reducible refine (icb_Valid.calls k a0_0 a0_1 a0_2 a0_3 a0_4 a0_5 a0_6 a0_7 a0_8 a0_9 a0_10 a0_11 A0_12 c0_12 l0_12 a0_13 a0_14 a0_15 a0_16 true _ (Kd.C_below HR.out HB1.out) HC.out HV.out).mono ?_
  rintro e w2 ⟨rfl, hb⟩
  have HB2 := Aside0.mk (below_step HB1.out hb)
  have BX2 := Aside0.mk (blk_below BX1.out hb)
  clear hb HB1 BX1
  go_wp2_with fail
  with_reducible refine (icb_within.calls a1 0 4294967295 false _ HW.out).mono ?_
  rintro e w3 ⟨rfl, hd⟩
  have hb : Below w2.heap.size w2 w3 := by (obtain ⟨m, rfl⟩ := hd; exact pw_below_drewN (Below.refl _ _) m)
  have HB3 := Aside0.mk (below_step HB2.out hb)
  have BX3 := Aside0.mk (blk_below BX2.out hb)
  clear hb hd HB2 BX2
  go_wp2
  go_ret2
  exact ⟨rfl, HB3.out⟩
 have h := if_tt.symm.trans HH.out
 clear HH
 obtain ⟨⟨tl, kd⟩, h1, h⟩ := Option.bind_eq_some_iff.1 h
 obtain ⟨⟨fm1, fm2⟩, h2, h⟩ := Option.bind_eq_some_iff.1 h
 have HT := Aside0.mk h1
 have HF := Aside0.mk h2
 replace h : encode_rest k a0_0 a0_1 a0_2 a0_3 a0_4 a0_5 a0_6 a0_7 a0_8 a0_9 a0_10 a0_11 l0_12 a0_13 a0_14 a0_15 a0_16 a1 tl kd fm1 = some (r1, r2) := h
 have HH := Aside0.mk h
 clear h1 h2 h
 go_enter Try.func14, Try.ntmps14
 go_upto_region 1 with (first | ((with_reducible refine gate_dst (N := 2) rfl ?_); refine box_event ?hg (N := 2) ?hd (cs := #[.bool a0_0, .int .i64 a0_1, .int .i64 a0_2, .int .i64 a0_3, .int .i64 a0_4, .int .i64 a0_5, .int .i64 a0_6, .int .i64 a0_7, .int .i64 a0_8, .int .i64 a0_9, .bool a0_10, .string a0_11, .slice A0_12 l0_12.length c0_12, .string a0_13, .bool a0_14, .int .i64 a0_15, .int .i64 a0_16]) (t := 31) ?hr ?_; (case hd => rfl); (case hg => rfl); (case hr => first | (go_simp; done) | (go_simp; rfl)); intro gx hg w1 hbox hb; have GX := Aside0.mk (show w.heap.size ≤ gx by rw [hg]; exact Nat.le_refl _); have HB1 := Aside0.mk (below_step HB.out hb); have BX1 := Aside0.mk hbox; clear HB hb hbox hg))
 go_wp2_with (first | ((with_reducible refine gate_dst (N := 20) rfl ?_); refine load_box rfl 31 _ rfl gx rfl #[.bool a0_0, .int .i64 a0_1, .int .i64 a0_2, .int .i64 a0_3, .int .i64 a0_4, .int .i64 a0_5, .int .i64 a0_6, .int .i64 a0_7, .int .i64 a0_8, .int .i64 a0_9, .bool a0_10, .string a0_11, .slice A0_12 l0_12.length c0_12, .string a0_13, .bool a0_14, .int .i64 a0_15, .int .i64 a0_16] _ BX1.out Try.underlying31 rfl (by kernel_rfl) ?_))
 with_reducible refine (icb_Valid.calls k a0_0 a0_1 a0_2 a0_3 a0_4 a0_5 a0_6 a0_7 a0_8 a0_9 a0_10 a0_11 A0_12 c0_12 l0_12 a0_13 a0_14 a0_15 a0_16 true _ (Kd.C_below HR.out HB1.out) HC.out HV.out).mono ?_
 rintro e w2 ⟨rfl, hb⟩
 have HB2 := Aside0.mk (below_step HB1.out hb)
 have BX2 := Aside0.mk (blk_below BX1.out hb)
 clear hb HB1 BX1
 go_wp2_with fail
 with_reducible refine (icb_within.calls a1 0 4294967295 true _ HW.out).mono ?_
 rintro e w3 ⟨rfl, hd⟩
 have hb : Below w2.heap.size w2 w3 := by (obtain ⟨m, rfl⟩ := hd; exact pw_below_drewN (Below.refl _ _) m)
 have HB3 := Aside0.mk (below_step HB2.out hb)
 have BX3 := Aside0.mk (blk_below BX2.out hb)
 clear hb hd HB2 BX2
 have q10 : w3.cell? ⟨gx, 10, none⟩ = some (.bool a0_10) := (blk_cell BX3.out 10).trans rfl
 have q11 : w3.cell? ⟨gx, 11, none⟩ = some (.string a0_11) := (blk_cell BX3.out 11).trans rfl
 go_upto_if 31 with fail
 go_cut [6, 7] from 29 to 37 (fun v6 v7 wc => v6 = .string tl ∧ v7 = .int .i64 kd ∧ Aside0 (Below w.heap.size w wc) ∧ Aside0 (wc.heap[gx]? = some (.cells #[.bool a0_0, .int .i64 a0_1, .int .i64 a0_2, .int .i64 a0_3, .int .i64 a0_4, .int .i64 a0_5, .int .i64 a0_6, .int .i64 a0_7, .int .i64 a0_8, .int .i64 a0_9, .bool a0_10, .string a0_11, .slice A0_12 l0_12.length c0_12, .string a0_13, .bool a0_14, .int .i64 a0_15, .int .i64 a0_16] 31 (0, 0))))
 case first =>
  clear HH
  cases a0_10
  ·have ht := HT.out
   unfold encode_tail at ht
   rw [if_neg (by decide)] at ht
   obtain ⟨⟨t1, t2⟩, ht1, ht2⟩ := Option.bind_eq_some_iff.1 ht
   obtain ⟨rfl, rfl⟩ := Prod.mk.inj (Option.some.inj ht2)
   have HT1 := Aside0.mk ht1
   clear ht ht1 ht2
   have q12 : w3.cell? ⟨gx, 12, none⟩ = some (.slice A0_12 l0_12.length c0_12) := (blk_cell BX3.out 12).trans rfl
   go_wp2_with fail
   with_reducible refine (allocation_EncodeLong.calls k A0_12 c0_12 l0_12 t1 t2 _ (Kd.C_below HR.out HB3.out) HC.out HT1.out).mono ?_
   rintro e w4 ⟨rfl, hb⟩
   have HB4 := Aside0.mk (below_step HB3.out hb)
   have BX4 := Aside0.mk (blk_below BX3.out hb)
   clear hb
   go_wp2
   go_meet
   case rel => exact ⟨rfl, rfl, HB4, BX4⟩
  ·have ht := HT.out
   unfold encode_tail at ht
   rw [if_pos rfl] at ht
   obtain ⟨rfl, rfl⟩ := Prod.mk.inj (Option.some.inj ht)
   clear ht
   go_wp2
   go_meet
   case rel => exact ⟨rfl, rfl, HB3, BX3⟩
 obtain ⟨rfl, rfl, HB4, BX4⟩ := hcut
 clear HB3 BX3 q10 q11
 have q0 : wc.cell? ⟨gx, 0, none⟩ = some (.bool a0_0) := (blk_cell BX4.out 0).trans rfl
 go_upto_if 39 with fail
 go_cut [8] from 38 to 39 (fun v8 wd => v8 = .int .i64 (if a0_0 = true then 266 else 261) ∧ Aside0 (wd = wc))
 case first =>
  clear HH
  cases a0_0
  ·go_wp2
   go_meet
   case rel => exact ⟨rfl, ⟨rfl⟩⟩
  ·go_wp2
   go_meet
   case rel => exact ⟨rfl, ⟨rfl⟩⟩
 obtain ⟨rfl, ⟨hwd⟩⟩ := hcut
 clear q0
 subst hwd
 obtain ⟨idn, hid⟩ : ∃ n : Int, (if a0_0 = true then 266 else 261) = n := ⟨_, rfl⟩
 rw [hid]
 have HQ := Aside0.mk hid
 clear hid
 obtain ⟨bf, hbf⟩ : ∃ bf, decide (wrap64 (2048 - fm1) < wrap64 ((a0_13.size : Int) + (tl.size : Int))) = bf := ⟨_, rfl⟩
 have HBF := Aside0.mk hbf
 clear hbf
 go_upto_region 11 with fail
 go_cut [51] from 40 to 50 (fun v51 we => v51 = .bool bf ∧ Aside0 (Below w.heap.size w we) ∧ Aside0 (we.heap[gx]? = some (.cells #[.bool a0_0, .int .i64 a0_1, .int .i64 a0_2, .int .i64 a0_3, .int .i64 a0_4, .int .i64 a0_5, .int .i64 a0_6, .int .i64 a0_7, .int .i64 a0_8, .int .i64 a0_9, .bool a0_10, .string a0_11, .slice A0_12 l0_12.length c0_12, .string a0_13, .bool a0_14, .int .i64 a0_15, .int .i64 a0_16] 31 (0, 0))))
 case first =>
  clear HH HQ
  go_wp2_with fail
  refine start_ (n := 12) (S := fun w' => w'.cell? ⟨gx, 0, none⟩ = some (.bool a0_0) ∧ w'.cell? ⟨gx, 13, none⟩ = some (.string a0_13)) (ds := []) #[false, false, false, false, false, false, false, false, false, false, false, false] (by kernel_rfl) rfl rfl ⟨(blk_cell (blk_drew BX4.out) 0).trans rfl, (blk_cell (blk_drew BX4.out) 13).trans rfl⟩ (fun hHeld => ?_)
  refine pure_ (i := 0) (N := some 40) (v := ?_) (a' := ?_) #[true, false, false, false, false, false, false, false, false, false, false, false] rfl rfl (by kernel_rfl) (fun _ _ _ h => h) (Or.inl ⟨by rfl, ?_⟩) ?_ ?_
  rotate_left
  ·intro w'
   go_simp
   with_reducible rfl
  rotate_left
  ·simp only [puts_]
   rfl
  refine pure_ (i := 3) (N := some 43) (v := ?_) (a' := ?_) #[true, false, false, true, false, false, false, false, false, false, false, false] rfl rfl (by kernel_rfl) (fun _ _ _ h => h) (Or.inl ⟨by rfl, ?_⟩) ?_ ?_
  rotate_left
  ·intro w'
   go_simp
   with_reducible rfl
  rotate_left
  ·simp only [puts_]
   rfl
  refine pure_ (i := 4) (N := some 44) (v := ?_) (a' := ?_) #[true, false, false, true, true, false, false, false, false, false, false, false] rfl rfl (by kernel_rfl) (fun _ _ _ h => h) (Or.inl ⟨by rfl, ?_⟩) ?_ ?_
  rotate_left
  ·intro w'
   go_simp
   with_reducible rfl
  rotate_left
  ·simp only [puts_]
   rfl
  refine pure_ (i := 6) (N := some 46) (v := ?_) (a' := ?_) #[true, false, false, true, true, false, true, false, false, false, false, false] rfl rfl (by kernel_rfl) (fun _ _ _ h => h) (Or.inl ⟨by rfl, ?_⟩) ?_ ?_
  rotate_left
  ·intro w'
   go_simp
   with_reducible rfl
  rotate_left
  ·simp only [puts_]
   rfl
  refine take_ (i := 1) (N := some 41) (v := ?_) (a' := ?_) #[true, true, false, true, true, false, true, false, false, false, false, false] rfl rfl (by kernel_rfl) (fun _ _ _ h => h) (Or.inl ⟨by rfl, ?_⟩) hHeld ?_ ?_
  rotate_left
  ·rintro w' ⟨s0, s1⟩
   go_simp
   with_reducible rfl
  rotate_left
  ·simp only [puts_]
   rfl
  refine pure_ (i := 2) (N := some 42) (v := ?_) (a' := ?_) #[true, true, true, true, true, false, true, false, false, false, false, false] rfl rfl (by kernel_rfl) (fun _ _ _ h => h) (Or.inl ⟨by rfl, ?_⟩) ?_ ?_
  rotate_left
  ·intro w'
   go_simp
   with_reducible rfl
  rotate_left
  ·simp only [puts_]
   rfl
  refine pure_ (i := 5) (N := some 45) (v := ?_) (a' := ?_) #[true, true, true, true, true, true, true, false, false, false, false, false] rfl rfl (by kernel_rfl) (fun _ _ _ h => h) (Or.inl ⟨by rfl, ?_⟩) ?_ ?_
  rotate_left
  ·intro w'
   go_simp
   with_reducible rfl
  rotate_left
  ·simp only [puts_]
   rfl
  refine take_ (i := 7) (N := some 47) (v := ?_) (a' := ?_) #[true, true, true, true, true, true, true, true, false, false, false, false] rfl rfl (by kernel_rfl) (fun _ _ _ h => h) (Or.inl ⟨by rfl, ?_⟩) hHeld ?_ ?_
  rotate_left
  ·rintro w' ⟨s0, s1⟩
   go_simp
   with_reducible rfl
  rotate_left
  ·simp only [puts_]
   rfl
  refine one_ (i := 8) (N := some 48) #[true, true, true, true, true, true, true, true, true, false, false, false] rfl rfl (by kernel_rfl) (by decide) (fun K hK => ?_)
  refine goes_ Try.func24 (by kernel_rfl) rfl #[.bool a0_0] (by rfl) rfl rfl (by simp only [List.map_toArray, List.map_cons, List.map_nil]; rfl) ?_
  with_reducible refine (icb_forms.calls a0_0 fm1 fm2 _ HF.out).mono ?_
  rintro e w5 ⟨rfl, hb⟩
  refine ⟨_, rfl, ?_⟩
  have HB5 := Aside0.mk (below_step (below_drew1 HB4.out) hb)
  have BX5 := Aside0.mk (blk_below (blk_drew BX4.out) hb)
  clear hb
  refine hK.out _ _ ⟨(blk_cell BX5.out 0).trans rfl, (blk_cell BX5.out 13).trans rfl⟩ (fun hHeld => ?_)
  clear hK K
  refine norm_ (a' := ?_) ?_ ?_
  rotate_left
  ·show Act.put _ (some 48) _ = _
   simp only [puts_]
   rfl
  refine pure_ (i := 9) (N := some 49) (v := ?_) (a' := ?_) #[true, true, true, true, true, true, true, true, true, true, false, false] rfl rfl (by kernel_rfl) (fun _ _ _ h => h) (Or.inl ⟨by rfl, ?_⟩) ?_ ?_
  rotate_left
  ·intro w'
   go_simp
   with_reducible rfl
  rotate_left
  ·simp only [puts_]
   rfl
  refine pure_ (i := 10) (N := some 50) (v := ?_) (a' := ?_) #[true, true, true, true, true, true, true, true, true, true, true, false] rfl rfl (by kernel_rfl) (fun _ _ _ h => h) (Or.inl ⟨by rfl, ?_⟩) ?_ ?_
  rotate_left
  ·intro w'
   go_simp
   with_reducible rfl
  rotate_left
  ·simp only [puts_]
   rfl
  refine pure_ (i := 11) (N := some 51) (v := ?_) (a' := ?_) #[true, true, true, true, true, true, true, true, true, true, true, true] rfl rfl (by kernel_rfl) (fun _ _ _ h => h) (Or.inl ⟨by rfl, ?_⟩) ?_ ?_
  rotate_left
  ·intro w'
   go_simp
   with_reducible rfl
  rotate_left
  ·simp only [puts_]
   rfl
  refine done_ (by kernel_rfl) ?_
  go_wp2
  go_meet
  case rel => exact ⟨by rw [← HBF.out], HB5, BX5⟩
 obtain ⟨rfl, HB5, BX5⟩ := hcut
 have hid := HQ.out
 generalize wc = w5 at HB5 BX5 ⊢
 have h := HH.out
 unfold encode_rest at h
 clear HH HQ
 cases bf
 rotate_left
 ·rw [if_pos (of_decide_eq_true HBF.out)] at h
  obtain ⟨rfl, rfl⟩ := Prod.mk.inj (Option.some.inj h)
  clear h HBF
  go_wp2
  go_ret2
  exact ⟨rfl, HB5.out⟩
 rw [if_neg (of_decide_eq_false HBF.out)] at h
 clear HBF
 obtain ⟨⟨pm, fl⟩, h1, h⟩ := Option.bind_eq_some_iff.1 h
 obtain ⟨⟨st, sz⟩, h2, h⟩ := Option.bind_eq_some_iff.1 h
 obtain ⟨l, h3, h⟩ := Option.bind_eq_some_iff.1 h
 replace h3 : encode_pieces k a0_0 a0_1 a0_2 a0_3 a0_4 a0_5 a0_6 a0_7 a0_8 a0_9 a0_10 a0_11 l0_12 a0_13 a0_14 a0_15 a0_16 tl kd pm fl st = some l := h3
 have HP := Aside0.mk h1
 have HS := Aside0.mk h2
 by_cases ln : l = []
 ·rw [if_pos ln] at h; cases h
 rw [if_neg ln] at h
 rw [hid] at h
 have HK := Aside0.mk h
 have HL := Aside0.mk ln
 clear h1 h2 h ln hid
 unfold encode_pieces at h3
 obtain ⟨p1, x, h3⟩ := Option.bind_eq_some_iff.1 h3
 have Xp1 := Aside0.mk x
 clear x
 obtain ⟨p2, x, h3⟩ := Option.bind_eq_some_iff.1 h3
 have Xp2 := Aside0.mk x
 clear x
 obtain ⟨p3, x, h3⟩ := Option.bind_eq_some_iff.1 h3
 have Xp3 := Aside0.mk x
 clear x
 obtain ⟨p4, x, h3⟩ := Option.bind_eq_some_iff.1 h3
 have Xp4 := Aside0.mk x
 clear x
 obtain ⟨p5, x, h3⟩ := Option.bind_eq_some_iff.1 h3
 have Xp5 := Aside0.mk x
 clear x
 obtain ⟨p6, x, h3⟩ := Option.bind_eq_some_iff.1 h3
 have Xp6 := Aside0.mk x
 clear x
 obtain ⟨p7, x, h3⟩ := Option.bind_eq_some_iff.1 h3
 have Xp7 := Aside0.mk x
 clear x
 obtain ⟨p8, x, h3⟩ := Option.bind_eq_some_iff.1 h3
 have Xp8 := Aside0.mk x
 clear x
 obtain ⟨p9, x, h3⟩ := Option.bind_eq_some_iff.1 h3
 have Xp9 := Aside0.mk x
 clear x
 obtain ⟨p10, x, h3⟩ := Option.bind_eq_some_iff.1 h3
 have Xp10 := Aside0.mk x
 clear x
 obtain ⟨p11, x, h3⟩ := Option.bind_eq_some_iff.1 h3
 have Xp11 := Aside0.mk x
 clear x
 obtain ⟨p12, x, h3⟩ := Option.bind_eq_some_iff.1 h3
 have Xp12 := Aside0.mk x
 clear x
 obtain ⟨p13, x, h3⟩ := Option.bind_eq_some_iff.1 h3
 have Xp13 := Aside0.mk x
 clear x
 obtain ⟨p14, x, h3⟩ := Option.bind_eq_some_iff.1 h3
 have Xp14 := Aside0.mk x
 clear x
 obtain ⟨p15, x, h3⟩ := Option.bind_eq_some_iff.1 h3
 have Xp15 := Aside0.mk x
 clear x
 obtain ⟨bl, x, h3⟩ := Option.bind_eq_some_iff.1 h3
 have Xbl := Aside0.mk x
 clear x
 obtain ⟨p16, x, h3⟩ := Option.bind_eq_some_iff.1 h3
 have Xp16 := Aside0.mk x
 clear x
 obtain ⟨p17, x, h3⟩ := Option.bind_eq_some_iff.1 h3
 have Xp17 := Aside0.mk x
 clear x
 obtain ⟨p18, x, h3⟩ := Option.bind_eq_some_iff.1 h3
 have Xp18 := Aside0.mk x
 clear x
 obtain ⟨p19, x, h3⟩ := Option.bind_eq_some_iff.1 h3
 have Xp19 := Aside0.mk x
 clear x
 obtain ⟨p20, x, h3⟩ := Option.bind_eq_some_iff.1 h3
 have Xp20 := Aside0.mk x
 clear x
 obtain ⟨p21, x, h3⟩ := Option.bind_eq_some_iff.1 h3
 have Xp21 := Aside0.mk x
 clear x
 obtain ⟨p22, x, h3⟩ := Option.bind_eq_some_iff.1 h3
 have Xp22 := Aside0.mk x
 clear x
 obtain ⟨p23, x, h3⟩ := Option.bind_eq_some_iff.1 h3
 have Xp23 := Aside0.mk x
 clear x
 obtain ⟨⟨en1, en2⟩, x, h3⟩ := Option.bind_eq_some_iff.1 h3
 have Xen := Aside0.mk x
 clear x
 obtain ⟨p24, x, h3⟩ := Option.bind_eq_some_iff.1 h3
 have Xp24 := Aside0.mk x
 clear x
 obtain ⟨p25, x, h3⟩ := Option.bind_eq_some_iff.1 h3
 have Xp25 := Aside0.mk x
 clear x
 obtain ⟨p26, x, h3⟩ := Option.bind_eq_some_iff.1 h3
 have Xp26 := Aside0.mk x
 clear x
 obtain ⟨p27, x, h3⟩ := Option.bind_eq_some_iff.1 h3
 have Xp27 := Aside0.mk x
 clear x
 obtain ⟨p28, x, h3⟩ := Option.bind_eq_some_iff.1 h3
 have Xp28 := Aside0.mk x
 clear x
 have hl := Option.some.inj h3
 subst hl
 clear h3
 go_upto_region 16 with fail
 have HE := Aside0.mk (ec_fresh HB5.out (by have := GX.out; omega) BX5.out)
 clear HB5 BX5
 generalize (w5.alloc (.cells #[.pointer none, .slice none 0 0] 58 (0, 0))).alloc (.cells #[.pointer (some ⟨w5.heap.size, 0, none⟩)] 52 (0, 0)) = w6 at HE ⊢
 generalize w5.heap.size + 1 = g at HE ⊢
 generalize w5.heap.size = b at HE ⊢
 have q2 : w6.cell? ⟨gx, 2, none⟩ = some (.int .i64 a0_2) := (blk_cell HE.out.box 2).trans rfl
 go_wp2_with fail
 with_reducible refine (icb_Permissions.calls k a0_2 pm fl _ HP.out).mono ?_
 rintro e w7 ⟨rfl, hd⟩
 have hb : Below w6.heap.size w6 w7 := by (obtain ⟨m, rfl⟩ := hd; exact pw_below_drewN (Below.refl _ _) m)
 replace HE := Aside0.mk (HE.out.below hb)
 clear hb hd
 clear q2
 have q5 : w7.cell? ⟨gx, 5, none⟩ = some (.int .i64 a0_5) := (blk_cell HE.out.box 5).trans rfl
 go_wp2_with fail
 with_reducible refine (datetime_Stamp.calls k a0_5 0 st sz _ HS.out).mono ?_
 rintro e w8 ⟨rfl, hb⟩
 replace HE := Aside0.mk (HE.out.below hb)
 clear hb
 clear q5
 go_upto_region 19 with (first | ((with_reducible refine gate_dst (N := 69) rfl ?_); refine goesCL_ (some 69) rfl rfl #[.pointer (some ⟨g, 0, none⟩)] Try.func25 (by kernel_rfl) rfl #[.int .i64 0, .int .i64 4, .pointer (some ⟨g, 0, none⟩)] ⟨_, rfl, rfl⟩ (by first | rfl | (simp only [List.map_toArray, List.map_cons, List.map_nil]; rfl)) ?_; (with_reducible refine (ec_num HE.out (by decide) Xp1.out).mono ?_); rintro e w9 ⟨rfl, he⟩; refine ⟨_, rfl, ?_⟩; replace HE := Aside0.mk he; clear he))
 go_upto_region 20 with (first | ((with_reducible refine gate_dst (N := 71) rfl ?_); refine goesCL_ (some 71) rfl rfl #[.pointer (some ⟨g, 0, none⟩)] Try.func25 (by kernel_rfl) rfl #[.int .i64 4, .int .i64 2, .pointer (some ⟨g, 0, none⟩)] ⟨_, rfl, rfl⟩ (by first | rfl | (simp only [List.map_toArray, List.map_cons, List.map_nil]; rfl)) ?_; (with_reducible refine (ec_num HE.out (by decide) Xp2.out).mono ?_); rintro e w10 ⟨rfl, he⟩; refine ⟨_, rfl, ?_⟩; replace HE := Aside0.mk he; clear he))
 go_upto_region 21 with (first | ((with_reducible refine gate_dst (N := 73) rfl ?_); refine goesCL_ (some 73) rfl rfl #[.pointer (some ⟨g, 0, none⟩)] Try.func25 (by kernel_rfl) rfl #[.int .i64 0, .int .i64 2, .pointer (some ⟨g, 0, none⟩)] ⟨_, rfl, rfl⟩ (by first | rfl | (simp only [List.map_toArray, List.map_cons, List.map_nil]; rfl)) ?_; (with_reducible refine (ec_num HE.out (by decide) Xp3.out).mono ?_); rintro e w11 ⟨rfl, he⟩; refine ⟨_, rfl, ?_⟩; replace HE := Aside0.mk he; clear he))
 go_upto_region 22 with (first | ((with_reducible refine gate_dst (N := 75) rfl ?_); refine goesCL_ (some 75) rfl rfl #[.pointer (some ⟨g, 0, none⟩)] Try.func25 (by kernel_rfl) rfl #[.int .i64 1, .int .i64 2, .pointer (some ⟨g, 0, none⟩)] ⟨_, rfl, rfl⟩ (by first | rfl | (simp only [List.map_toArray, List.map_cons, List.map_nil]; rfl)) ?_; (with_reducible refine (ec_num HE.out (by decide) Xp4.out).mono ?_); rintro e w12 ⟨rfl, he⟩; refine ⟨_, rfl, ?_⟩; replace HE := Aside0.mk he; clear he))
 go_upto_region 23 with (first | ((with_reducible refine gate_dst (N := 77) rfl ?_); refine goesCL_ (some 77) rfl rfl #[.pointer (some ⟨g, 0, none⟩)] Try.func25 (by kernel_rfl) rfl #[.int .i64 0, .int .i64 1, .pointer (some ⟨g, 0, none⟩)] ⟨_, rfl, rfl⟩ (by first | rfl | (simp only [List.map_toArray, List.map_cons, List.map_nil]; rfl)) ?_; (with_reducible refine (ec_num HE.out (by decide) Xp5.out).mono ?_); rintro e w13 ⟨rfl, he⟩; refine ⟨_, rfl, ?_⟩; replace HE := Aside0.mk he; clear he))
 have q1 : w13.cell? ⟨gx, 1, none⟩ = some (.int .i64 a0_1) := (blk_cell HE.out.box 1).trans rfl
 go_upto_region 24 with (first | ((with_reducible refine gate_dst (N := 81) rfl ?_); refine goesCL_ (some 81) rfl rfl #[.pointer (some ⟨g, 0, none⟩)] Try.func25 (by kernel_rfl) rfl #[.int .i64 a0_1, .int .i64 1, .pointer (some ⟨g, 0, none⟩)] ⟨_, rfl, rfl⟩ (by first | rfl | (simp only [List.map_toArray, List.map_cons, List.map_nil]; rfl)) ?_; (with_reducible refine (ec_num HE.out (by decide) Xp6.out).mono ?_); rintro e w14 ⟨rfl, he⟩; refine ⟨_, rfl, ?_⟩; replace HE := Aside0.mk he; clear he))
 clear q1
 go_upto_region 25 with (first | ((with_reducible refine gate_dst (N := 83) rfl ?_); refine goesCL_ (some 83) rfl rfl #[.pointer (some ⟨g, 0, none⟩)] Try.func28 (by kernel_rfl) rfl #[.int .i64 6, .pointer (some ⟨g, 0, none⟩)] ⟨_, rfl, rfl⟩ (by first | rfl | (simp only [List.map_toArray, List.map_cons, List.map_nil]; rfl)) ?_; (with_reducible refine (ec_zero HE.out (by decide) Xp7.out).mono ?_); rintro e w15 ⟨rfl, he⟩; refine ⟨_, rfl, ?_⟩; replace HE := Aside0.mk he; clear he))
 go_upto_region 26 with (first | ((with_reducible refine gate_dst (N := 88) rfl ?_); refine goesCL_ (some 88) rfl rfl #[.pointer (some ⟨g, 0, none⟩)] Try.func25 (by kernel_rfl) rfl #[.int .i64 (wrap64 (fl + kd)), .int .i64 2, .pointer (some ⟨g, 0, none⟩)] ⟨_, rfl, rfl⟩ (by first | rfl | (simp only [List.map_toArray, List.map_cons, List.map_nil]; rfl)) ?_; (with_reducible refine (ec_num HE.out (by decide) Xp8.out).mono ?_); rintro e w16 ⟨rfl, he⟩; refine ⟨_, rfl, ?_⟩; replace HE := Aside0.mk he; clear he))
 have q3 : w16.cell? ⟨gx, 3, none⟩ = some (.int .i64 a0_3) := (blk_cell HE.out.box 3).trans rfl
 go_upto_region 27 with (first | ((with_reducible refine gate_dst (N := 92) rfl ?_); refine goesCL_ (some 92) rfl rfl #[.pointer (some ⟨g, 0, none⟩)] Try.func25 (by kernel_rfl) rfl #[.int .i64 a0_3, .int .i64 4, .pointer (some ⟨g, 0, none⟩)] ⟨_, rfl, rfl⟩ (by first | rfl | (simp only [List.map_toArray, List.map_cons, List.map_nil]; rfl)) ?_; (with_reducible refine (ec_num HE.out (by decide) Xp9.out).mono ?_); rintro e w17 ⟨rfl, he⟩; refine ⟨_, rfl, ?_⟩; replace HE := Aside0.mk he; clear he))
 clear q3
 have q4 : w17.cell? ⟨gx, 4, none⟩ = some (.int .i64 a0_4) := (blk_cell HE.out.box 4).trans rfl
 go_upto_region 28 with (first | ((with_reducible refine gate_dst (N := 96) rfl ?_); refine goesCL_ (some 96) rfl rfl #[.pointer (some ⟨g, 0, none⟩)] Try.func25 (by kernel_rfl) rfl #[.int .i64 a0_4, .int .i64 4, .pointer (some ⟨g, 0, none⟩)] ⟨_, rfl, rfl⟩ (by first | rfl | (simp only [List.map_toArray, List.map_cons, List.map_nil]; rfl)) ?_; (with_reducible refine (ec_num HE.out (by decide) Xp10.out).mono ?_); rintro e w18 ⟨rfl, he⟩; refine ⟨_, rfl, ?_⟩; replace HE := Aside0.mk he; clear he))
 clear q4
 go_upto_region 29 with (first | ((with_reducible refine gate_dst (N := 99) rfl ?_); refine goesCL_ (some 99) rfl rfl #[.pointer (some ⟨g, 0, none⟩)] Try.func25 (by kernel_rfl) rfl #[.int .i64 pm, .int .i64 4, .pointer (some ⟨g, 0, none⟩)] ⟨_, rfl, rfl⟩ (by first | rfl | (simp only [List.map_toArray, List.map_cons, List.map_nil]; rfl)) ?_; (with_reducible refine (ec_num HE.out (by decide) Xp11.out).mono ?_); rintro e w19 ⟨rfl, he⟩; refine ⟨_, rfl, ?_⟩; replace HE := Aside0.mk he; clear he))
 have q6 : w19.cell? ⟨gx, 6, none⟩ = some (.int .i64 a0_6) := (blk_cell HE.out.box 6).trans rfl
 go_upto_region 30 with (first | ((with_reducible refine gate_dst (N := 103) rfl ?_); refine goesCL_ (some 103) rfl rfl #[.pointer (some ⟨g, 0, none⟩)] Try.func25 (by kernel_rfl) rfl #[.int .i64 a0_6, .int .i64 2, .pointer (some ⟨g, 0, none⟩)] ⟨_, rfl, rfl⟩ (by first | rfl | (simp only [List.map_toArray, List.map_cons, List.map_nil]; rfl)) ?_; (with_reducible refine (ec_num HE.out (by decide) Xp12.out).mono ?_); rintro e w20 ⟨rfl, he⟩; refine ⟨_, rfl, ?_⟩; replace HE := Aside0.mk he; clear he))
 clear q6
 go_upto_region 31 with (first | ((with_reducible refine gate_dst (N := 105) rfl ?_); refine goesCL_ (some 105) rfl rfl #[.pointer (some ⟨g, 0, none⟩)] Try.func28 (by kernel_rfl) rfl #[.int .i64 6, .pointer (some ⟨g, 0, none⟩)] ⟨_, rfl, rfl⟩ (by first | rfl | (simp only [List.map_toArray, List.map_cons, List.map_nil]; rfl)) ?_; (with_reducible refine (ec_zero HE.out (by decide) Xp13.out).mono ?_); rintro e w21 ⟨rfl, he⟩; refine ⟨_, rfl, ?_⟩; replace HE := Aside0.mk he; clear he))
 have q8 : w21.cell? ⟨gx, 8, none⟩ = some (.int .i64 a0_8) := (blk_cell HE.out.box 8).trans rfl
 go_upto_region 32 with (first | ((with_reducible refine gate_dst (N := 109) rfl ?_); refine goesCL_ (some 109) rfl rfl #[.pointer (some ⟨g, 0, none⟩)] Try.func25 (by kernel_rfl) rfl #[.int .i64 a0_8, .int .i64 8, .pointer (some ⟨g, 0, none⟩)] ⟨_, rfl, rfl⟩ (by first | rfl | (simp only [List.map_toArray, List.map_cons, List.map_nil]; rfl)) ?_; (with_reducible refine (ec_num HE.out (by decide) Xp14.out).mono ?_); rintro e w22 ⟨rfl, he⟩; refine ⟨_, rfl, ?_⟩; replace HE := Aside0.mk he; clear he))
 clear q8
 have q0 : w22.cell? ⟨gx, 0, none⟩ = some (.bool a0_0) := (blk_cell HE.out.box 0).trans rfl
 go_upto_if 111 with fail
 go_cut [] from 110 to 115 (fun wd => Aside0 (EC w wd b gx g b #[.bool a0_0, .int .i64 a0_1, .int .i64 a0_2, .int .i64 a0_3, .int .i64 a0_4, .int .i64 a0_5, .int .i64 a0_6, .int .i64 a0_7, .int .i64 a0_8, .int .i64 a0_9, .bool a0_10, .string a0_11, .slice A0_12 l0_12.length c0_12, .string a0_13, .bool a0_14, .int .i64 a0_15, .int .i64 a0_16] ((((((((((((((([] ++ p1) ++ p2) ++ p3) ++ p4) ++ p5) ++ p6) ++ p7) ++ p8) ++ p9) ++ p10) ++ p11) ++ p12) ++ p13) ++ p14) ++ p15) 15))
 case first =>
  clear HK HL
  have hx := Xp15.out
  clear Xp15
  cases a0_0
  ·have hx := if_ff.symm.trans hx
   obtain rfl := Option.some.inj hx
   clear hx
   go_wp2
   go_meet
   case rel => exact ⟨HE.out.up⟩
  ·have hx := if_tt.symm.trans hx
   have Xp15 := Aside0.mk hx
   clear hx q0
   have q9 : w22.cell? ⟨gx, 9, none⟩ = some (.int .i64 a0_9) := (blk_cell HE.out.box 9).trans rfl
   go_wp2_with (first | ((with_reducible refine gate_dst (N := 115) rfl ?_); refine goesCL_ (some 115) rfl rfl #[.pointer (some ⟨g, 0, none⟩)] Try.func25 (by kernel_rfl) rfl #[.int .i64 a0_9, .int .i64 8, .pointer (some ⟨g, 0, none⟩)] ⟨_, rfl, rfl⟩ (by first | rfl | (simp only [List.map_toArray, List.map_cons, List.map_nil]; rfl)) ?_; (with_reducible refine (ec_num HE.out (by decide) Xp15.out).mono ?_); rintro e w23 ⟨rfl, he⟩; refine ⟨_, rfl, ?_⟩; replace HE := Aside0.mk he; clear he))
   clear q9
   go_wp2
   go_meet
   case rel => exact HE
 have HE2 := hcut
 clear HE hcut q0
 have HE := HE2
 clear HE2
 generalize wc = w23 at HE ⊢
 have q12 : w23.cell? ⟨gx, 12, none⟩ = some (.slice A0_12 l0_12.length c0_12) := (blk_cell HE.out.box 12).trans rfl
 go_wp2_with fail
 with_reducible refine (allocation_Blocks.calls k A0_12 c0_12 l0_12 bl _ (Kd.C_below HR.out HE.out.blw) HC.out Xbl.out).mono ?_
 rintro e w24 ⟨rfl, hb⟩
 replace HE := Aside0.mk (HE.out.below hb)
 clear hb
 clear q12
 go_upto_region 35 with (first | ((with_reducible refine gate_dst (N := 120) rfl ?_); refine goesCL_ (some 120) rfl rfl #[.pointer (some ⟨g, 0, none⟩)] Try.func25 (by kernel_rfl) rfl #[.int .i64 bl, .int .i64 8, .pointer (some ⟨g, 0, none⟩)] ⟨_, rfl, rfl⟩ (by first | rfl | (simp only [List.map_toArray, List.map_cons, List.map_nil]; rfl)) ?_; (with_reducible refine (ec_num HE.out (by decide) Xp16.out).mono ?_); rintro e w25 ⟨rfl, he⟩; refine ⟨_, rfl, ?_⟩; replace HE := Aside0.mk he; clear he))
 have z0 : st.size + st.size ≤ 9223372036854775807 := by (have := (enc_raw_some Xp17.out).1; rw [ByteArray.size_append] at this; omega)
 have z1 := decide_eq_true z0
 have z2 : (9223372036854775807 < st.size + st.size) = False := eq_false (Nat.not_lt.2 z0)
 clear z0
 have qv : w25.cell? ⟨g, 0, none⟩ = some (.pointer (some ⟨b, 0, none⟩)) := HE.out.var
 go_wp2_with fail
 have hh := ec_write HE.out (by decide) Xp17.out
 clear qv
 with_reducible refine hh.mono ?_
 clear hh HE
 rintro e w26 ⟨rfl, he⟩
 have HE := Aside0.mk he
 clear he
 clear z1 z2
 have q0 : w26.cell? ⟨gx, 0, none⟩ = some (.bool a0_0) := (blk_cell HE.out.box 0).trans rfl
 go_upto_if 129 with fail
 go_cut [] from 128 to 134 (fun wd => Aside0 (EC w wd b gx g b #[.bool a0_0, .int .i64 a0_1, .int .i64 a0_2, .int .i64 a0_3, .int .i64 a0_4, .int .i64 a0_5, .int .i64 a0_6, .int .i64 a0_7, .int .i64 a0_8, .int .i64 a0_9, .bool a0_10, .string a0_11, .slice A0_12 l0_12.length c0_12, .string a0_13, .bool a0_14, .int .i64 a0_15, .int .i64 a0_16] (((((((((((((((((([] ++ p1) ++ p2) ++ p3) ++ p4) ++ p5) ++ p6) ++ p7) ++ p8) ++ p9) ++ p10) ++ p11) ++ p12) ++ p13) ++ p14) ++ p15) ++ p16) ++ p17) ++ p18) 18))
 case first =>
  clear HK HL
  have hx := Xp18.out
  clear Xp18
  cases a0_0
  ·have hx := if_ff.symm.trans hx
   obtain rfl := Option.some.inj hx
   clear hx
   go_wp2
   go_meet
   case rel => exact ⟨HE.out.up⟩
  ·have hx := if_tt.symm.trans hx
   have Xp18 := Aside0.mk hx
   clear hx q0
   have qv : w26.cell? ⟨g, 0, none⟩ = some (.pointer (some ⟨b, 0, none⟩)) := HE.out.var
   go_wp2_with fail
   have hh := ec_write HE.out (by decide) Xp18.out
   clear qv
   with_reducible refine hh.mono ?_
   clear hh HE
   rintro e w27 ⟨rfl, he⟩
   have HE := Aside0.mk he
   clear he
   go_wp2
   go_meet
   case rel => exact HE
 have HE2 := hcut
 clear HE hcut q0
 have HE := HE2
 clear HE2
 generalize wc = w27 at HE ⊢
 have qv : w27.cell? ⟨g, 0, none⟩ = some (.pointer (some ⟨b, 0, none⟩)) := HE.out.var
 go_wp2_with fail
 have hh := ec_write HE.out (by decide) Xp19.out
 clear qv
 with_reducible refine hh.mono ?_
 clear hh HE
 rintro e w28 ⟨rfl, he⟩
 have HE := Aside0.mk he
 clear he
 go_upto_region 40 with (first | ((with_reducible refine gate_dst (N := 141) rfl ?_); refine goesCL_ (some 141) rfl rfl #[.pointer (some ⟨g, 0, none⟩)] Try.func25 (by kernel_rfl) rfl #[.int .i64 1, .int .i64 4, .pointer (some ⟨g, 0, none⟩)] ⟨_, rfl, rfl⟩ (by first | rfl | (simp only [List.map_toArray, List.map_cons, List.map_nil]; rfl)) ?_; (with_reducible refine (ec_num HE.out (by decide) Xp20.out).mono ?_); rintro e w29 ⟨rfl, he⟩; refine ⟨_, rfl, ?_⟩; replace HE := Aside0.mk he; clear he))
 have q0 : w29.cell? ⟨gx, 0, none⟩ = some (.bool a0_0) := (blk_cell HE.out.box 0).trans rfl
 go_upto_if 143 with fail
 go_cut [] from 142 to 145 (fun wd => Aside0 (EC w wd b gx g b #[.bool a0_0, .int .i64 a0_1, .int .i64 a0_2, .int .i64 a0_3, .int .i64 a0_4, .int .i64 a0_5, .int .i64 a0_6, .int .i64 a0_7, .int .i64 a0_8, .int .i64 a0_9, .bool a0_10, .string a0_11, .slice A0_12 l0_12.length c0_12, .string a0_13, .bool a0_14, .int .i64 a0_15, .int .i64 a0_16] ((((((((((((((((((((([] ++ p1) ++ p2) ++ p3) ++ p4) ++ p5) ++ p6) ++ p7) ++ p8) ++ p9) ++ p10) ++ p11) ++ p12) ++ p13) ++ p14) ++ p15) ++ p16) ++ p17) ++ p18) ++ p19) ++ p20) ++ p21) 21))
 case first =>
  clear HK HL
  have hx := Xp21.out
  clear Xp21
  cases a0_0
  ·have hx := if_ff.symm.trans hx
   obtain rfl := Option.some.inj hx
   clear hx
   go_wp2
   go_meet
   case rel => exact ⟨HE.out.up⟩
  ·have hx := if_tt.symm.trans hx
   have Xp21 := Aside0.mk hx
   clear hx q0
   go_wp2_with (first | ((with_reducible refine gate_dst (N := 145) rfl ?_); refine goesCL_ (some 145) rfl rfl #[.pointer (some ⟨g, 0, none⟩)] Try.func28 (by kernel_rfl) rfl #[.int .i64 4, .pointer (some ⟨g, 0, none⟩)] ⟨_, rfl, rfl⟩ (by first | rfl | (simp only [List.map_toArray, List.map_cons, List.map_nil]; rfl)) ?_; (with_reducible refine (ec_zero HE.out (by decide) Xp21.out).mono ?_); rintro e w30 ⟨rfl, he⟩; refine ⟨_, rfl, ?_⟩; replace HE := Aside0.mk he; clear he))
   go_wp2
   go_meet
   case rel => exact HE
 have HE2 := hcut
 clear HE hcut q0
 have HE := HE2
 clear HE2
 generalize wc = w30 at HE ⊢
 go_upto_region 43 with (first | ((with_reducible refine gate_dst (N := 147) rfl ?_); refine goesCL_ (some 147) rfl rfl #[.pointer (some ⟨g, 0, none⟩)] Try.func28 (by kernel_rfl) rfl #[.int .i64 16, .pointer (some ⟨g, 0, none⟩)] ⟨_, rfl, rfl⟩ (by first | rfl | (simp only [List.map_toArray, List.map_cons, List.map_nil]; rfl)) ?_; (with_reducible refine (ec_zero HE.out (by decide) Xp22.out).mono ?_); rintro e w31 ⟨rfl, he⟩; refine ⟨_, rfl, ?_⟩; replace HE := Aside0.mk he; clear he))
 have q0 : w31.cell? ⟨gx, 0, none⟩ = some (.bool a0_0) := (blk_cell HE.out.box 0).trans rfl
 go_upto_if 149 with fail
 go_cut [] from 148 to 165 (fun wd => Aside0 (EC w wd b gx g b #[.bool a0_0, .int .i64 a0_1, .int .i64 a0_2, .int .i64 a0_3, .int .i64 a0_4, .int .i64 a0_5, .int .i64 a0_6, .int .i64 a0_7, .int .i64 a0_8, .int .i64 a0_9, .bool a0_10, .string a0_11, .slice A0_12 l0_12.length c0_12, .string a0_13, .bool a0_14, .int .i64 a0_15, .int .i64 a0_16] ((((((((((((((((((((((([] ++ p1) ++ p2) ++ p3) ++ p4) ++ p5) ++ p6) ++ p7) ++ p8) ++ p9) ++ p10) ++ p11) ++ p12) ++ p13) ++ p14) ++ p15) ++ p16) ++ p17) ++ p18) ++ p19) ++ p20) ++ p21) ++ p22) ++ p23) 23))
 case first =>
  clear HK HL
  have hx := Xp23.out
  clear Xp23
  cases a0_0
  ·have hx := if_ff.symm.trans hx
   obtain rfl := Option.some.inj hx
   clear hx
   go_wp2
   go_meet
   case rel => exact ⟨HE.out.up⟩
  ·have hx := if_tt.symm.trans hx
   have Xp23 := Aside0.mk hx
   clear hx q0
   go_wp2_with fail
   with_reducible refine (strings_Repeat.calls (⟨#[0]⟩ : ByteArray) 16 _ _ rep16).mono ?_
   rintro e w32 ⟨rfl, hb⟩
   replace HE := Aside0.mk (HE.out.below hb)
   clear hb
   have q14 : w32.cell? ⟨gx, 14, none⟩ = some (.bool a0_14) := (blk_cell HE.out.box 14).trans rfl
   go_upto_if 152 with fail
   cases a0_14
   ·have hx := if_ff.symm.trans Xp23.out
    obtain ⟨s0, hs0, hx⟩ := Option.bind_eq_some_iff.1 hx
    obtain rfl := Option.some.inj (hs0.symm.trans rep16)
    clear Xp23 hs0
    have Xp23 := Aside0.mk hx
    clear hx q14
    have qv : w32.cell? ⟨g, 0, none⟩ = some (.pointer (some ⟨b, 0, none⟩)) := HE.out.var
    go_wp2_with fail
    have hh := ec_write HE.out (by decide) Xp23.out
    clear qv
    with_reducible refine hh.mono ?_
    clear hh HE
    rintro e w33 ⟨rfl, he⟩
    have HE := Aside0.mk he
    clear he
    go_wp2
    go_meet
    case rel => exact HE
   ·have hx := if_tt.symm.trans Xp23.out
    obtain ⟨⟨s0, z0⟩, hs0, hx⟩ := Option.bind_eq_some_iff.1 hx
    replace hx : enc_raw s0 = some p23 := hx
    clear Xp23
    have Xp23 := Aside0.mk hx
    have XS := Aside0.mk hs0
    clear hx hs0 q14
    have q15 : w32.cell? ⟨gx, 15, none⟩ = some (.int .i64 a0_15) := (blk_cell HE.out.box 15).trans rfl
    have q16 : w32.cell? ⟨gx, 16, none⟩ = some (.int .i64 a0_16) := (blk_cell HE.out.box 16).trans rfl
    go_wp2_with fail
    have hb : Below w32.heap.size w32 (w32.alloc (.cells #[.int .i64 0, .int .i64 2048, .int .i64 a0_15, .int .i64 a0_16] 69 (0, 0))) := below_alloc (Below.refl _ _) _
    replace HE := Aside0.mk (HE.out.below hb)
    have hbn := blk_new w32 (.cells #[.int .i64 0, .int .i64 2048, .int .i64 a0_15, .int .i64 a0_16] 69 (0, 0))
    refine (allocation_EncodeLong.calls k (some ⟨w32.heap.size, 0, none⟩) 1 [(⟨0, 2048, (⟨a0_15, a0_16⟩ : S29)⟩ : S69)] s0 z0 _ (C_one _ _ _ hbn) (Nat.le_refl _) XS.out).mono ?_
    rintro e w33 ⟨rfl, hb2⟩
    replace HE := Aside0.mk (HE.out.below hb2)
    clear hb hb2 hbn q15 q16
    have qv : w33.cell? ⟨g, 0, none⟩ = some (.pointer (some ⟨b, 0, none⟩)) := HE.out.var
    go_wp2_with fail
    have hh := ec_write HE.out (by decide) Xp23.out
    clear qv
    with_reducible refine hh.mono ?_
    clear hh HE
    rintro e w34 ⟨rfl, he⟩
    have HE := Aside0.mk he
    clear he
    go_wp2
    go_meet
    case rel => exact HE
 have HE2 := hcut
 clear HE hcut q0
 have HE := HE2
 clear HE2
 generalize wc = w32 at HE ⊢
 go_wp2_with fail
 with_reducible refine (udfstring_Entity.calls k (⟨#[42, 109, 97, 115, 116, 101, 114, 100, 105, 115, 99]⟩ : ByteArray) (⟨#[]⟩ : ByteArray) en1 en2 _ Xen.out).mono ?_
 rintro e w33 ⟨rfl, hb⟩
 replace HE := Aside0.mk (HE.out.below hb)
 clear hb
 have qv : w33.cell? ⟨g, 0, none⟩ = some (.pointer (some ⟨b, 0, none⟩)) := HE.out.var
 go_wp2_with fail
 have hh := ec_write HE.out (by decide) Xp24.out
 clear qv
 with_reducible refine hh.mono ?_
 clear hh HE
 rintro e w34 ⟨rfl, he⟩
 have HE := Aside0.mk he
 clear he
 have q7 : w34.cell? ⟨gx, 7, none⟩ = some (.int .i64 a0_7) := (blk_cell HE.out.box 7).trans rfl
 go_upto_region 51 with (first | ((with_reducible refine gate_dst (N := 178) rfl ?_); refine goesCL_ (some 178) rfl rfl #[.pointer (some ⟨g, 0, none⟩)] Try.func25 (by kernel_rfl) rfl #[.int .i64 a0_7, .int .i64 8, .pointer (some ⟨g, 0, none⟩)] ⟨_, rfl, rfl⟩ (by first | rfl | (simp only [List.map_toArray, List.map_cons, List.map_nil]; rfl)) ?_; (with_reducible refine (ec_num HE.out (by decide) Xp25.out).mono ?_); rintro e w35 ⟨rfl, he⟩; refine ⟨_, rfl, ?_⟩; replace HE := Aside0.mk he; clear he))
 clear q7
 have q13 : w35.cell? ⟨gx, 13, none⟩ = some (.string a0_13) := (blk_cell HE.out.box 13).trans rfl
 go_upto_region 52 with (first | ((with_reducible refine gate_dst (N := 183) rfl ?_); refine goesCL_ (some 183) rfl rfl #[.pointer (some ⟨g, 0, none⟩)] Try.func25 (by kernel_rfl) rfl #[.int .i64 (a0_13.size : Int), .int .i64 4, .pointer (some ⟨g, 0, none⟩)] ⟨_, rfl, rfl⟩ (by first | rfl | (simp only [List.map_toArray, List.map_cons, List.map_nil]; rfl)) ?_; (with_reducible refine (ec_num HE.out (by decide) Xp26.out).mono ?_); rintro e w36 ⟨rfl, he⟩; refine ⟨_, rfl, ?_⟩; replace HE := Aside0.mk he; clear he))
 clear q13
 go_upto_region 53 with (first | ((with_reducible refine gate_dst (N := 187) rfl ?_); refine goesCL_ (some 187) rfl rfl #[.pointer (some ⟨g, 0, none⟩)] Try.func25 (by kernel_rfl) rfl #[.int .i64 (tl.size : Int), .int .i64 4, .pointer (some ⟨g, 0, none⟩)] ⟨_, rfl, rfl⟩ (by first | rfl | (simp only [List.map_toArray, List.map_cons, List.map_nil]; rfl)) ?_; (with_reducible refine (ec_num HE.out (by decide) Xp27.out).mono ?_); rintro e w37 ⟨rfl, he⟩; refine ⟨_, rfl, ?_⟩; replace HE := Aside0.mk he; clear he))
 have z0 : a0_13.size + tl.size ≤ 9223372036854775807 := by (have := (enc_raw_some Xp28.out).1; rw [ByteArray.size_append] at this; omega)
 have z1 := decide_eq_true z0
 have z2 : (9223372036854775807 < a0_13.size + tl.size) = False := eq_false (Nat.not_lt.2 z0)
 clear z0
 go_wp2_with fail
 refine start_ (n := 8) (S := fun w' => w'.cell? ⟨g, 0, none⟩ = some (.pointer (some ⟨b, 0, none⟩)) ∧ w'.cell? ⟨gx, 13, none⟩ = some (.string a0_13)) (ds := []) #[false, false, false, false, false, false, false, false] (by kernel_rfl) rfl rfl ⟨HE.out.drew.var, (blk_cell HE.out.drew.box 13).trans rfl⟩ (fun hHeld => ?_)
 refine pure_ (i := 3) (N := some 191) (v := ?_) (a' := ?_) #[false, false, false, true, false, false, false, false] rfl rfl (by kernel_rfl) (fun _ _ _ h => h) (Or.inl ⟨by rfl, ?_⟩) ?_ ?_
 rotate_left
 ·intro w'
  go_simp
  with_reducible rfl
 rotate_left
 ·simp only [puts_]
  rfl
 refine pure_ (i := 5) (N := some 193) (v := ?_) (a' := ?_) #[false, false, false, true, false, true, false, false] rfl rfl (by kernel_rfl) (fun _ _ _ h => h) (Or.inl ⟨by rfl, ?_⟩) ?_ ?_
 rotate_left
 ·intro w'
  go_simp
  with_reducible rfl
 rotate_left
 ·simp only [puts_]
  rfl
 refine take_ (i := 0) (N := some 188) (v := ?_) (a' := ?_) #[true, false, false, true, false, true, false, false] rfl rfl (by kernel_rfl) (fun _ _ _ h => h) (Or.inl ⟨by rfl, ?_⟩) hHeld ?_ ?_
 rotate_left
 ·rintro w' ⟨s0, s1⟩
  go_simp
  with_reducible rfl
 rotate_left
 ·simp only [puts_]
  rfl
 refine pure_ (i := 1) (N := some 189) (v := ?_) (a' := ?_) #[true, true, false, true, false, true, false, false] rfl rfl (by kernel_rfl) (fun _ _ _ h => h) (Or.inl ⟨by rfl, ?_⟩) ?_ ?_
 rotate_left
 ·intro w'
  go_simp
  with_reducible rfl
 rotate_left
 ·simp only [puts_]
  rfl
 refine pure_ (i := 2) (N := some 190) (v := ?_) (a' := ?_) #[true, true, true, true, false, true, false, false] rfl rfl (by kernel_rfl) (fun _ _ _ h => h) (Or.inl ⟨by rfl, ?_⟩) ?_ ?_
 rotate_left
 ·intro w'
  go_simp
  with_reducible rfl
 rotate_left
 ·simp only [puts_]
  rfl
 refine take_ (i := 4) (N := some 192) (v := ?_) (a' := ?_) #[true, true, true, true, true, true, false, false] rfl rfl (by kernel_rfl) (fun _ _ _ h => h) (Or.inl ⟨by rfl, ?_⟩) hHeld ?_ ?_
 rotate_left
 ·rintro w' ⟨s0, s1⟩
  go_simp
  with_reducible rfl
 rotate_left
 ·simp only [puts_]
  rfl
 refine pure_ (i := 6) (N := some 194) (v := ?_) (a' := ?_) #[true, true, true, true, true, true, true, false] rfl rfl (by kernel_rfl) (fun _ _ _ h => h) (Or.inl ⟨by rfl, ?_⟩) ?_ ?_
 rotate_left
 ·intro w'
  go_simp
  with_reducible rfl
 rotate_left
 ·simp only [puts_]
  rfl
 refine one_ (i := 7) (N := some 195) #[true, true, true, true, true, true, true, true] rfl rfl (by kernel_rfl) (by decide) (fun K hK => ?_)
 refine goes_ Try.func27 (by kernel_rfl) rfl #[.pointer (some ⟨b, 0, none⟩), .string (a0_13 ++ tl)] (by rfl) rfl rfl (by simp only [List.map_toArray, List.map_cons, List.map_nil]; rfl) ?_
 with_reducible refine (ec_write HE.out.drew (by decide) Xp28.out).mono ?_
 rintro e w38 ⟨rfl, he⟩
 refine ⟨_, rfl, ?_⟩
 replace HE := Aside0.mk he
 clear he
 refine hK.out _ _ ⟨HE.out.var, (blk_cell HE.out.box 13).trans rfl⟩ (fun hHeld => ?_)
 clear hK K
 refine norm_ (a' := ?_) ?_ ?_
 rotate_left
 ·show Act.put _ (some 195) _ = _
  simp only [puts_]
  rfl
 refine done_ (by kernel_rfl) ?_
 clear z1 z2
 obtain ⟨bs, hbs⟩ : ∃ bs : ByteArray, (⟨(((((((((((((((((((((((((((((([] : List UInt8) ++ p1) ++ p2) ++ p3) ++ p4) ++ p5) ++ p6) ++ p7) ++ p8) ++ p9) ++ p10) ++ p11) ++ p12) ++ p13) ++ p14) ++ p15) ++ p16) ++ p17) ++ p18) ++ p19) ++ p20) ++ p21) ++ p22) ++ p23) ++ p24) ++ p25) ++ p26) ++ p27) ++ p28)).toArray⟩ : ByteArray) = bs := ⟨_, rfl⟩
 have hk : udftag_Block.f k idn 1 a1 ⟨(((((((((((((((((((((((((((((([] : List UInt8) ++ p1) ++ p2) ++ p3) ++ p4) ++ p5) ++ p6) ++ p7) ++ p8) ++ p9) ++ p10) ++ p11) ++ p12) ++ p13) ++ p14) ++ p15) ++ p16) ++ p17) ++ p18) ++ p19) ++ p20) ++ p21) ++ p22) ++ p23) ++ p24) ++ p25) ++ p26) ++ p27) ++ p28)).toArray⟩ = some (r1, r2) := HK.out
 rw [hbs] at hk
 clear HK
 have HK := Aside0.mk hk
 clear hk
 have hstr := bld_string 58 bldBody b b _ w38 HE.out.eb.bld HL.out
 replace hstr : Calls Try.prog 34 #[.pointer (some ⟨b, 0, none⟩)] w38 (fun e w' => e = .returned (.string (⟨(((((((((((((((((((((((((((((([] : List UInt8) ++ p1) ++ p2) ++ p3) ++ p4) ++ p5) ++ p6) ++ p7) ++ p8) ++ p9) ++ p10) ++ p11) ++ p12) ++ p13) ++ p14) ++ p15) ++ p16) ++ p17) ++ p18) ++ p19) ++ p20) ++ p21) ++ p22) ++ p23) ++ p24) ++ p25) ++ p26) ++ p27) ++ p28)).toArray⟩ : ByteArray)) ∧ Below b w38 w') := hstr
 rw [hbs] at hstr
 have HSTR := Aside0.mk hstr
 clear hstr hbs HL
 have qv : w38.cell? ⟨g, 0, none⟩ = some (.pointer (some ⟨b, 0, none⟩)) := HE.out.var
 go_wp2_with fail
 with_reducible refine HSTR.out.mono ?_
 rintro e w39 ⟨rfl, hb⟩
 have HF2 := Aside0.mk (HE.out.blw.trans (hb.mono (by have := HE.out.lo; have := HE.out.bxB; omega)))
 clear hb qv HE HSTR
 go_wp2_with fail
 with_reducible refine (udftag_Block.calls k idn 1 a1 _ r1 r2 _ HK.out).mono ?_
 rintro e w40 ⟨rfl, hb⟩
 have HF3 := Aside0.mk (below_step HF2.out hb)
 clear hb
 go_wp2
 go_ret2
 exact ⟨rfl, HF3.out⟩

end Go.Proofs.Yticmghpnbjhhnab.M
