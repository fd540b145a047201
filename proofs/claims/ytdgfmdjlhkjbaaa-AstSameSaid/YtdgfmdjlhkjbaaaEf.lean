/-
  The reference parser: atoms.
-/
import Derived.Test.YtdgfmdjlhkjbaaaDb
set_option linter.all false
section
set_option maxRecDepth 10000
set_option maxHeartbeats 4000000
set_option linter.unusedSimpArgs false
set_option linter.unusedVariables false
namespace Go.Proofs.Ab5
open Go.Ab Go.Proofs
variable {ts : List Tok} {N : Nat}
theorem e_atom (ih : AllE ts N) : CE ts (N + 1) 13 63 := by
  intro p b L ρt at0 nv0 deep0 df0 lp0 tp0 code0 pos0 ns0 R S p0 room hN h1
  have g0 := p0.pos
  have g1 := p0.lt
  have g2 := p0.tok.most
  refine acalls_of Try.func63 rfl (rd_ok hMix (κ := fun _ => false) δ0 _ rfl ?_)
  simp (maxSteps := 4000000) only [go_sem, reduceIte, reduceCtorEq, Nat.reduceAdd, Nat.reduceSub, Nat.reduceMul, Nat.reduceLeDiff, Nat.reduceLT, Nat.reduceEqDiff, Nat.reduceBEq, Try.ntmps63, Try.f63]
  refine callBy cb12 (c_bad (fun e0 => ?_) (fun e0 => ?_)) <;> simp (maxSteps := 4000000) only [go_sem, reduceIte, reduceCtorEq, Nat.reduceAdd, Nat.reduceSub, Nat.reduceMul, Nat.reduceLeDiff, Nat.reduceLT, Nat.reduceEqDiff, Nat.reduceBEq]
  · refine callBy cb13 (c_now p0 fun tok x1 x2 x3 => ?_)
    simp (maxSteps := 4000000) only [go_sem, reduceIte, reduceCtorEq, Nat.reduceAdd, Nat.reduceSub, Nat.reduceMul, Nat.reduceLeDiff, Nat.reduceLT, Nat.reduceEqDiff, Nat.reduceBEq, p0.wrap1]
    refine ⟨fun hk1 => ?_, fun hk1 => ⟨fun hk2 => ?_, fun hk2 => ⟨fun hk3 => ?_, fun hk3 => ⟨fun hk4 => ?_, fun hk4 => ?_⟩⟩⟩⟩
    · have p3 := p0.step (at1 := at0 + 1) (code1 := code0) (by omega) (x2 (by rw [hk1]; decide)) id
      refine callBy cb16 (c_put (ks := []) p3 (.inl ⟨rfl, rfl⟩) (by omega) fun r7 nv7 ns7 L7 p7 k7 c7 => ?_)
      simp (maxSteps := 4000000) only [go_sem, reduceIte, reduceCtorEq, Nat.reduceAdd, Nat.reduceSub, Nat.reduceMul, Nat.reduceLeDiff, Nat.reduceLT, Nat.reduceEqDiff, Nat.reduceBEq]
      exact h1 _ _ _ _ _ _ _ _ _ _ _ p7 k7 (by omega) (by omega) (by omega) (fun e => ⟨e0, by omega⟩)
    · have p3 := p0.step (at1 := at0 + 1) (code1 := code0) (by omega) (x2 (by rw [hk2]; decide)) id
      refine callBy cb16 (c_put (ks := []) p3 (.inl ⟨rfl, rfl⟩) (by omega) fun r7 nv7 ns7 L7 p7 k7 c7 => ?_)
      simp (maxSteps := 4000000) only [go_sem, reduceIte, reduceCtorEq, Nat.reduceAdd, Nat.reduceSub, Nat.reduceMul, Nat.reduceLeDiff, Nat.reduceLT, Nat.reduceEqDiff, Nat.reduceBEq]
      exact h1 _ _ _ _ _ _ _ _ _ _ _ p7 k7 (by omega) (by omega) (by omega) (fun e => ⟨e0, by omega⟩)
    · refine AWp.loop_st [true, false, false, true, true, false, false, false, false, false, false, false, false, false, false, false, false, false, false, false, false, false, false, false, false, false, false, false, false, false, false, false, false, false, false, false, false, false, false, false, false, false, false, false, false, false, false, false, false, false, false, false, false, false, false, false, false, false, false, false, false, false, false, false, false, false, false, false, false, false, false, false, false, false, false, false, false, false, false, false, false, false, false, false, false, false, false, false, false, false, false, false, false, false, false, false, false, false, false, false, false, false, false, false, false, false, false, false, false, false, false, false] [3] (fun x : Int × ByteArray => ⟨[.ptr p 0, .any, .any, .loc 3 0, .str x.2, .any, .any, .any, .any, .any, .any, .any, .any, .any, .any, .any, .any, .any, .any, .any, .any, .any, .any, .any, .any, .any, .any, .any, .any, .any, .any, .any, .any, .any, .any, .any, .any, .any, .any, .any, .any, .any, .any, .any, .any, .any, .any, .any, .any, .any, .any, .any, .any, .any, .any, .any, .any, .any, .any, .any, .any, .any, .any, .any, .any, .any, .any, .any, .any, .any, .any, .any, .any, .any, .any, .any, .any, .any, .any, .any, .any, .any, .any, .any, .any, .any, .any, .any, .any, .any, .any, .any, .any, .any, .any, .any, .any, .any, .any, .any, .any, .any, .any, .any, .any, .any, .any, .any, .any, .any, .any, .any], [(3, [.int .i64 tok.kind, .str tok.text, .int .i64 tok.pos])]⟩) (fun x => ⟨upd b p (some (pcells ρt ts x.1 nv0 deep0 df0 lp0 tp0 code0 pos0)), L⟩)
        (fun x => at0 ≤ x.1 ∧ x.1 < ts.length ∧ (x.2.size : Int) ≤ (x.1 - at0) * 1048576) (fun x => (ts.length - x.1).toNat) (at0, .empty) ?_ ?_ rfl ⟨Int.le_refl _, g1, by simp⟩ ?_
      · simp (maxSteps := 4000000) only [go_sem, reduceIte, reduceCtorEq, Nat.reduceAdd, Nat.reduceSub, Nat.reduceMul, Nat.reduceLeDiff, Nat.reduceLT, Nat.reduceEqDiff, Nat.reduceBEq]
      · simp (maxSteps := 4000000) only [go_sem, reduceIte, reduceCtorEq, Nat.reduceAdd, Nat.reduceSub, Nat.reduceMul, Nat.reduceLeDiff, Nat.reduceLT, Nat.reduceEqDiff, Nat.reduceBEq]
        rfl
      rintro ⟨at2, s2⟩ ⟨m2, t2, c2⟩
      dsimp only at m2 t2 c2 ⊢
      have p2 := p0.step (at1 := at2) (code1 := code0) m2 t2 id
      refine rd_ok hMix (κ := fun _ => false) δ0 _ rfl ?_
      simp (maxSteps := 4000000) only [go_sem, reduceIte, reduceCtorEq, Nat.reduceAdd, Nat.reduceSub, Nat.reduceMul, Nat.reduceLeDiff, Nat.reduceLT, Nat.reduceEqDiff, Nat.reduceBEq]
      refine callBy cb13 (c_now p2 fun tok2 u1 u2 u3 => ?_)
      simp (maxSteps := 4000000) only [go_sem, reduceIte, reduceCtorEq, Nat.reduceAdd, Nat.reduceSub, Nat.reduceMul, Nat.reduceLeDiff, Nat.reduceLT, Nat.reduceEqDiff, Nat.reduceBEq]
      refine ⟨fun hk => ?_, fun hk => ?_⟩
      · refine callBy cb13 (c_now p2 fun tok4 w1 w2 w3 => ?_)
        simp (maxSteps := 4000000) only [go_sem, reduceIte, reduceCtorEq, Nat.reduceAdd, Nat.reduceSub, Nat.reduceMul, Nat.reduceLeDiff, Nat.reduceLT, Nat.reduceEqDiff, Nat.reduceBEq, p2.wrap1]
        refine ⟨by omega, (at2 + 1, s2 ++ tok4.text), rfl, rfl, ⟨?_, ?_, ?_⟩, ?_⟩
        all_goals dsimp only
        · omega
        · exact u2 (by rw [hk]; decide)
        · rw [ByteArray.size_append]; omega
        · have := u2 (by rw [hk]; decide); omega
      · have hne : at2 ≠ at0 := fun e => by
          rw [e, x1] at u1
          cases u1
          exact hk hk3
        refine callBy cb16 (c_put (ks := []) p2 (.inl ⟨rfl, rfl⟩) (by omega) fun r7 nv7 ns7 L7 p7 k7 c7 => ?_)
        simp (maxSteps := 4000000) only [go_sem, reduceIte, reduceCtorEq, Nat.reduceAdd, Nat.reduceSub, Nat.reduceMul, Nat.reduceLeDiff, Nat.reduceLT, Nat.reduceEqDiff, Nat.reduceBEq]
        exact h1 _ _ _ _ _ _ _ _ _ _ _ p7 k7 (by omega) (by omega) (by omega) (fun e => ⟨e0, by omega⟩)
    · intro n hn hL
      have p4 := p0.grow (Grow.upd n)
      refine callBy cb27 (c_among (l := [_, _, _]) (.inr ⟨some n, rfl⟩) (by decide) fun i _ _ => ?_)
      simp (maxSteps := 4000000) only [go_sem, reduceIte, reduceCtorEq, Nat.reduceAdd, Nat.reduceSub, Nat.reduceMul, Nat.reduceLeDiff, Nat.reduceLT, Nat.reduceEqDiff, Nat.reduceBEq, p0.wrap1]
      refine ⟨fun hi => ?_, fun hi => ⟨fun ht1 => ?_, fun ht1 => ⟨fun ht2 => ?_, fun ht2 => ⟨fun ht3 => ?_, fun ht3 => ?_⟩⟩⟩⟩
      · have p3 := p4.step (at1 := at0 + 1) (code1 := code0) (by omega) (x2 (by rw [hk4]; decide)) id
        refine callBy cb16 (c_put (ks := []) p3 (.inl ⟨rfl, rfl⟩) (by omega) fun r7 nv7 ns7 L7 p7 k7 c7 => ?_)
        simp (maxSteps := 4000000) only [go_sem, reduceIte, reduceCtorEq, Nat.reduceAdd, Nat.reduceSub, Nat.reduceMul, Nat.reduceLeDiff, Nat.reduceLT, Nat.reduceEqDiff, Nat.reduceBEq]
        exact h1 _ _ _ _ _ _ _ _ _ _ _ p7 ((Grow.upd n).keep.trans k7) (by omega) (by omega) (by omega) (fun e => ⟨e0, by omega⟩)
      ·
        refine callBy cb67 (ih.round p4 (by omega) (by omega) (x2 (by rw [hk4]; decide)) fun r5 at5 nv5 ns5 deep5 df5 lp5 tp5 code5 pos5 L5 p5 k5 m5 t5 c5 q5 => ?_)
        simp (maxSteps := 4000000) only [go_sem, reduceIte, reduceCtorEq, Nat.reduceAdd, Nat.reduceSub, Nat.reduceMul, Nat.reduceLeDiff, Nat.reduceLT, Nat.reduceEqDiff, Nat.reduceBEq]
        exact h1 _ _ _ _ _ _ _ _ _ _ _ p5 ((Grow.upd n).keep.trans k5) m5 t5 c5 q5
      ·
        refine callBy cb68 (ih.square p4 (by omega) (by omega) (x2 (by rw [hk4]; decide)) fun r5 at5 nv5 ns5 deep5 df5 lp5 tp5 code5 pos5 L5 p5 k5 m5 t5 c5 q5 => ?_)
        simp (maxSteps := 4000000) only [go_sem, reduceIte, reduceCtorEq, Nat.reduceAdd, Nat.reduceSub, Nat.reduceMul, Nat.reduceLeDiff, Nat.reduceLT, Nat.reduceEqDiff, Nat.reduceBEq]
        exact h1 _ _ _ _ _ _ _ _ _ _ _ p5 ((Grow.upd n).keep.trans k5) m5 t5 c5 q5
      ·
        refine callBy cb69 (ih.curly p4 (by omega) (by omega) (x2 (by rw [hk4]; decide)) fun r5 at5 nv5 ns5 deep5 df5 lp5 tp5 code5 pos5 L5 p5 k5 m5 t5 c5 q5 => ?_)
        simp (maxSteps := 4000000) only [go_sem, reduceIte, reduceCtorEq, Nat.reduceAdd, Nat.reduceSub, Nat.reduceMul, Nat.reduceLeDiff, Nat.reduceLT, Nat.reduceEqDiff, Nat.reduceBEq]
        exact h1 _ _ _ _ _ _ _ _ _ _ _ p5 ((Grow.upd n).keep.trans k5) m5 t5 c5 q5
      ·
        refine callBy cb37 (c_wrong p4 fun code1 pos1 hc => ?_)
        simp (maxSteps := 4000000) only [go_sem, reduceIte, reduceCtorEq, Nat.reduceAdd, Nat.reduceSub, Nat.reduceMul, Nat.reduceLeDiff, Nat.reduceLT, Nat.reduceEqDiff, Nat.reduceBEq]
        exact h1 _ _ _ _ _ _ _ _ _ _ _ (p4.fail (Int.le_refl _) g1 hc _) (Grow.upd n).keep (by omega) (by omega) (by omega) (fun e => absurd e hc)
    ·
      refine callBy cb37 (c_wrong p0 fun code1 pos1 hc => ?_)
      simp (maxSteps := 4000000) only [go_sem, reduceIte, reduceCtorEq, Nat.reduceAdd, Nat.reduceSub, Nat.reduceMul, Nat.reduceLeDiff, Nat.reduceLT, Nat.reduceEqDiff, Nat.reduceBEq]
      exact h1 _ _ _ _ _ _ _ _ _ _ _ (p0.fail (Int.le_refl _) g1 hc _) (Keep.refl _ _) (by omega) (by omega) (by omega) (fun e => absurd e hc)
  · exact h1 _ _ _ _ _ _ _ _ _ _ _ (p0.bad e0 _) (Keep.refl _ _) (by omega) (by omega) (by omega) (fun e => absurd e e0)

end Go.Proofs.Ab5
end
