/- The law MetadataReads: for every input it returns true, and its arguments read as before: the row, out of its pure statement and the walk. -/
import Derived.Test.YticmghpnbjhhnaaRows
import Derived.Test.YticmghpnbjhhnaaM22
import Derived.Test.YticmghpnbjhhnaaPureMetadataReads
import Derived.Test.YticmghpnbjhhnaaOpen
import Derived.WalkKit
import Derived.ProofKit
import Derived.OpenShut
import Derived.ShutString
import Derived.ChangeOld
import Derived.Below
import Derived.SizedLaws
import Derived.Carry
namespace Go.Proofs.Yticmghpnbjhhnaa.metadataReads
open Go.ChangeShapes Go.WideShapes Go.ChangeAt Go.RowKit Go.Proofs.Yticmghpnbjhhnaa.Open Go.Proofs.Yticmghpnbjhhnaa.M Go.Proofs.YticmghpnbjhhnaaW.PrintWords
open Go.ChangeMaps (open_string shut_string)
set_option linter.unusedVariables false
theorem own : ownKnob Try.prog.godebug = none := by kernel_rfl
theorem laidOut : laidOutB Try.prog = true := by kernel_rfl
set_option maxRecDepth 100000 in
theorem lifted (os : Os) (started : os.Started) (H : Type) (enc : TypeId × Value → H) :
    ReturnsInHanded {} Try.checked os 7 .any (Rows.metadataReadsSpec.pre6 enc Try.prog Try.f7 Rows.metadataReadsRow.domain false) (Rows.metadataReadsSpec.post enc Try.prog Try.f7 false true false false) := by
  refine returnsInHanded_of_change_sized (C := Try.checked) own started (by kernel_rfl) Try.func7
    (ChangeSpec.witness6 (enc := enc) (C := Try.checked) false ⟨#[], #[.slice none 0 0, .agg #[.slice none 0 0, .int .i64 0, .int .i64 0, .slice none 0 0, .slice none 0 0, .slice none 0 0, .slice none 0 0], .int .i64 0], []⟩ 12 (by kernel_rfl) (by kernel_rfl) (by kernel_rfl) (by kernel_rfl)) ?_
  intro W base args ds gs before hval0 hW hcnd hsz0 _
  have hsz : (DataW.weightsEach Try.prog (Try.f7.params.toList ++ Rows.metadataReadsSpec.plain.varTypes Try.prog) (ds ++ gs)).all (· ≤ reachBytes) = true := hsz0
  have hval : ∀ (j : Nat) t v, Try.f7.params[j]? = some t → args[j]? = some v → Value.okWide Try.prog W .any base t v := hval0
  have hW' := hW
  obtain ⟨p, q, hA0, hV, rfl, hfz, hnd⟩ := hW
  have hA : DataW.TrodAll enc Try.prog W 0 (fun _ => true) true Try.f7.params.toList args.toList ds p := hA0
  rw [Try.params7] at hA hval hsz
  obtain ⟨v0, vs0, d0, ds0, p0, q0, hargs, rfl, rfl, h0, r0⟩ := trodAll_cons hA
  obtain ⟨v1, vs1, d1, ds1, p1, q1, rfl, rfl, rfl, h1, r1⟩ := trodAll_cons r0
  obtain ⟨v2, vs2, d2, ds2, p2, q2, rfl, rfl, rfl, h2, r2⟩ := trodAll_cons r1
  obtain ⟨rfl, rfl, rfl⟩ := trodAll_nil r2
  obtain rfl : args = #[v0, v1, v2] := by cases args; simp_all
  obtain ⟨rfl, rfl⟩ := trodVars_none hV
  have k0 := h0
  have lt0 : ∀ x ∈ p0, x.block < W.heap.size := by obtain ⟨m, hm⟩ := k0; exact DataW.trod_lt m _ _ _ hm
  obtain ⟨x0, hk0, hg0⟩ := open_arg (opens_slice Try.underlying54 (by kernel_rfl) (by kernel_rfl) (opens_string Try.underlying9)) h0 (weightsEach_get hsz 0 54 d0 rfl rfl)
  obtain ⟨A0, c0, hv0, hc0, hr0⟩ := hk0
  have e0 := slice_of Try.underlying54 (hval 0 54 v0 rfl rfl) hv0
  subst e0
  have k1 := h1
  have lt1 : ∀ x ∈ p1, x.block < W.heap.size := by obtain ⟨m, hm⟩ := k1; exact DataW.trod_lt m _ _ _ hm
  obtain ⟨x1, hk1, hg1⟩ := open_arg (opens_struct Try.underlying40 (by kernel_rfl) (opensF_cons (by rfl) (by kernel_rfl) (opens_slice Try.underlying37 (by kernel_rfl) (by kernel_rfl) (opens_struct Try.underlying96 (by kernel_rfl) (opensF_cons (by rfl) (by kernel_rfl) (opens_int Try.underlying3) (opensF_cons (by rfl) (by kernel_rfl) (opens_int Try.underlying3) (opensF_cons (by rfl) (by kernel_rfl) (opens_slice Try.underlying24 (by kernel_rfl) (by kernel_rfl) (opens_int Try.underlying3)) (opensF_cons (by rfl) (by kernel_rfl) (opens_int Try.underlying3) (opensF_cons (by rfl) (by kernel_rfl) (opens_int Try.underlying3) (opensF_last (by rfl) (by kernel_rfl) (opens_int Try.underlying3))))))) (fun x : S96 => (x.f0, x.f1, x.f2, x.f3, x.f4, x.f5)) (fun a => ⟨a.1, a.2.1, a.2.2.1, a.2.2.2.1, a.2.2.2.2.1, a.2.2.2.2.2⟩) (fun _ => rfl))) (opensF_cons (by rfl) (by kernel_rfl) (opens_struct Try.underlying23 (by kernel_rfl) (opensF_cons (by rfl) (by kernel_rfl) (opens_int Try.underlying3) (opensF_last (by rfl) (by kernel_rfl) (opens_int Try.underlying3))) (fun x : S23 => (x.f0, x.f1)) (fun a => ⟨a.1, a.2⟩) (fun _ => rfl)) (opensF_cons (by rfl) (by kernel_rfl) (opens_slice Try.underlying24 (by kernel_rfl) (by kernel_rfl) (opens_int Try.underlying3)) (opensF_cons (by rfl) (by kernel_rfl) (opens_slice Try.underlying38 (by kernel_rfl) (by kernel_rfl) (opens_struct Try.underlying98 (by kernel_rfl) (opensF_cons (by rfl) (by kernel_rfl) (opens_int Try.underlying3) (opensF_last (by rfl) (by kernel_rfl) (opens_int Try.underlying3))) (fun x : S98 => (x.f0, x.f1)) (fun a => ⟨a.1, a.2⟩) (fun _ => rfl))) (opensF_cons (by rfl) (by kernel_rfl) (opens_slice Try.underlying26 (by kernel_rfl) (by kernel_rfl) (opens_struct Try.underlying35 (by kernel_rfl) (opensF_cons (by rfl) (by kernel_rfl) (opens_int Try.underlying3) (opensF_cons (by rfl) (by kernel_rfl) (opens_int Try.underlying3) (opensF_last (by rfl) (by kernel_rfl) (opens_struct Try.underlying33 (by kernel_rfl) (opensF_cons (by rfl) (by kernel_rfl) (opens_int Try.underlying3) (opensF_last (by rfl) (by kernel_rfl) (opens_int Try.underlying3))) (fun x : S33 => (x.f0, x.f1)) (fun a => ⟨a.1, a.2⟩) (fun _ => rfl))))) (fun x : S35 => (x.f0, x.f1, x.f2)) (fun a => ⟨a.1, a.2.1, a.2.2⟩) (fun _ => rfl))) (opensF_last (by rfl) (by kernel_rfl) (opens_slice Try.underlying26 (by kernel_rfl) (by kernel_rfl) (opens_struct Try.underlying35 (by kernel_rfl) (opensF_cons (by rfl) (by kernel_rfl) (opens_int Try.underlying3) (opensF_cons (by rfl) (by kernel_rfl) (opens_int Try.underlying3) (opensF_last (by rfl) (by kernel_rfl) (opens_struct Try.underlying33 (by kernel_rfl) (opensF_cons (by rfl) (by kernel_rfl) (opens_int Try.underlying3) (opensF_last (by rfl) (by kernel_rfl) (opens_int Try.underlying3))) (fun x : S33 => (x.f0, x.f1)) (fun a => ⟨a.1, a.2⟩) (fun _ => rfl))))) (fun x : S35 => (x.f0, x.f1, x.f2)) (fun a => ⟨a.1, a.2.1, a.2.2⟩) (fun _ => rfl))))))))) (fun x : S40 => (x.f0, x.f1, x.f2, x.f3, x.f4, x.f5)) (fun a => ⟨a.1, a.2.1, a.2.2.1, a.2.2.2.1, a.2.2.2.2.1, a.2.2.2.2.2⟩) (fun _ => rfl)) h1 (weightsEach_get hsz 1 40 d1 rfl rfl)
  obtain ⟨A1_0, c1_0, A1_3, c1_3, A1_4, c1_4, A1_5, c1_5, A1_6, c1_6, hv1, hc1_0, hr1_0, hc1_3, hr1_3, hc1_4, hr1_4, hc1_5, hr1_5, hc1_6, hr1_6⟩ := k40_open hk1
  have e1 := agg_of Try.underlying40 (hval 1 40 v1 rfl rfl) hv1
  subst e1
  have k2 := h2
  have lt2 : ∀ x ∈ p2, x.block < W.heap.size := by obtain ⟨m, hm⟩ := k2; exact DataW.trod_lt m _ _ _ hm
  obtain ⟨x2, hk2, hg2⟩ := open_arg (opens_int Try.underlying3) h2 (weightsEach_get hsz 2 3 d2 rfl rfl)
  obtain ⟨y2, rfl, rfl, rfl, wy2⟩ := open_int Try.underlying3 (hval 2 3 v2 rfl rfl) h2
  obtain rfl : x2 = y2 := by have z : [_] = [_] := hk2; simpa using z.symm
  obtain ⟨kk, hp⟩ := Pure.MetadataReads x0 x1 x2 hg0 hg1 hg2
  refine (masterdisclaw40_MetadataReads.calls kk A0 c0 x0 A1_0 c1_0 x1.f0 x1.f1.f0 x1.f1.f1 A1_3 c1_3 x1.f2 A1_4 c1_4 x1.f3 A1_5 c1_5 x1.f4 A1_6 c1_6 x1.f5 x2 true W hr0 hc0 hr1_0 hc1_0 hr1_3 hc1_3 hr1_4 hc1_4 hr1_5 hc1_5 hr1_6 hc1_6 (Aside0.mk rfl) hp).mono fun e W' ⟨he, bel0⟩ => ?_
  have bel : Below W.heap.size W W' := bel0
  subst he
  exact ⟨_, rfl, _, _, _, [], _, [], hW', trodAll_mk1 (shut_bool Try.underlying4 _), (trodAll_cons_mk (Below.trod laidOut (by kernel_rfl) (of_decide_eq_true (by kernel_rfl)) k0 bel lt0) (trodAll_cons_mk (Below.trod laidOut (by kernel_rfl) (of_decide_eq_true (by kernel_rfl)) k1 bel lt1) (trodAll_cons_mk (Below.trod laidOut (by kernel_rfl) (of_decide_eq_true (by kernel_rfl)) k2 bel lt2) trodAll_mk0))), rfl, bel.frame _, fun h => by cases h⟩
theorem over : Rows.metadataReadsRow.holds Try.pinned (OpenSpec.ofChange Rows.metadataReadsSpec) :=
  OpenClaim.holds_of_wide 7 Try.f7 rfl rfl rfl rfl rfl rfl rfl ⟨rfl, rfl, rfl, rfl, rfl⟩ rfl rfl rfl rfl rfl (by kernel_rfl) Try.func7 (by kernel_rfl)
    (of_decide_eq_true (by kernel_rfl)) (by unfold Func.isWrapper; first | (rw [if_pos (by decide +kernel)]; kernel_rfl) | (rw [if_neg (by decide +kernel)]; exact ⟨rfl, rfl⟩))
    (fun os started H enc _ => lifted os started H enc)
theorem proved : Rows.MetadataReadsSaid := over
#print axioms proved
end Go.Proofs.Yticmghpnbjhhnaa.metadataReads
namespace Go.Proofs.Yticmghpnbjhhnaa
/-- The row, under a short name, for the claim. -/
theorem metadataReads_holds : Rows.MetadataReadsSaid := metadataReads.proved
end Go.Proofs.Yticmghpnbjhhnaa
