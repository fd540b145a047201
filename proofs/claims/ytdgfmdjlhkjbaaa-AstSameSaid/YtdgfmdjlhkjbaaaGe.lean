/-
  The reference parser: statements.
-/
import Derived.Test.YtdgfmdjlhkjbaaaGc
import Derived.Test.YtdgfmdjlhkjbaaaGd
set_option linter.all false
section
set_option maxRecDepth 10000
set_option maxHeartbeats 4000000
set_option linter.unusedSimpArgs false
set_option linter.unusedVariables false
namespace Go.Proofs.Ab5
open Go.Ab Go.Proofs
variable {ts : List Tok} {N : Nat}
theorem s_statement (ih : AllS ts N) : CS ts (N + 1) 30 14 := by
  intro p b L ρt at0 nv0 deep0 df0 lp0 tp0 code0 pos0 ns0 R S p0 room hN h1
  have g0 := p0.pos
  have g1 := p0.lt
  have g2 := p0.tok.most
  have ihE := allE (ts := ts) (64 * ts.length + 100)
  refine acalls_of Try.func14 rfl (rd_ok hMix (κ := fun _ => false) δ0 _ rfl ?_)
  simp (maxSteps := 4000000) only [go_sem, reduceIte, reduceCtorEq, Nat.reduceAdd, Nat.reduceSub, Nat.reduceMul, Nat.reduceLeDiff, Nat.reduceLT, Nat.reduceEqDiff, Nat.reduceBEq, Try.ntmps14, Try.f14]
  refine callBy cb12 (c_bad (fun e0 => ?_) (fun e0 => ?_)) <;> simp (maxSteps := 4000000) only [go_sem, reduceIte, reduceCtorEq, Nat.reduceAdd, Nat.reduceSub, Nat.reduceMul, Nat.reduceLeDiff, Nat.reduceLT, Nat.reduceEqDiff, Nat.reduceBEq]
  · refine callBy cb13 (c_now p0 fun tok x1 x2 x3 => ?_)
    simp (maxSteps := 4000000) only [go_sem, reduceIte, reduceCtorEq, Nat.reduceAdd, Nat.reduceSub, Nat.reduceMul, Nat.reduceLeDiff, Nat.reduceLT, Nat.reduceEqDiff, Nat.reduceBEq]
    refine callBy cb32 (c_is p0 fun v hv => ?_)
    cases v <;> simp (maxSteps := 4000000) only [go_sem, reduceIte, reduceCtorEq, Nat.reduceAdd, Nat.reduceSub, Nat.reduceMul, Nat.reduceLeDiff, Nat.reduceLT, Nat.reduceEqDiff, Nat.reduceBEq]
    · refine callBy cb32 (c_is p0 fun v hv => ?_)
      cases v <;> simp (maxSteps := 4000000) only [go_sem, reduceIte, reduceCtorEq, Nat.reduceAdd, Nat.reduceSub, Nat.reduceMul, Nat.reduceLeDiff, Nat.reduceLT, Nat.reduceEqDiff, Nat.reduceBEq, p0.wrap1]
      · refine callBy cb32 (c_is p0 fun v hv => ?_)
        cases v <;> simp (maxSteps := 4000000) only [go_sem, reduceIte, reduceCtorEq, Nat.reduceAdd, Nat.reduceSub, Nat.reduceMul, Nat.reduceLeDiff, Nat.reduceLT, Nat.reduceEqDiff, Nat.reduceBEq]
        ·
          refine callBy cb41 (c_simple p0 room fun r8 at8 nv8 ns8 deep8 df8 lp8 tp8 code8 pos8 L8 p8 k8 m8 t8 c8 q8 => ?_)
          simp (maxSteps := 4000000) only [go_sem, reduceIte, reduceCtorEq, Nat.reduceAdd, Nat.reduceSub, Nat.reduceMul, Nat.reduceLeDiff, Nat.reduceLT, Nat.reduceEqDiff, Nat.reduceBEq]
          refine callBy cb42 (c_kind p8 (by decide) fun tok4 v at9 code9 pos9 y0 y1 y2 y3 y4 y5 => ?_)
          simp (maxSteps := 4000000) only [go_sem, reduceIte, reduceCtorEq, Nat.reduceAdd, Nat.reduceSub, Nat.reduceMul, Nat.reduceLeDiff, Nat.reduceLT, Nat.reduceEqDiff, Nat.reduceBEq]
          exact h1 _ _ _ _ _ _ _ _ _ _ _ (p8.step (code1 := code9) y4 y5 (fun e => (y3 e).1)) k8 (by omega) (by omega) (by omega) (fun e => by have := q8 (y3 e).1; omega)
        · have hv := hv rfl
          refine ⟨fun ht => ?_, fun ht => ?_⟩
          · refine callBy cb37 (c_wrong p0 fun code7 pos7 hc => ?_)
            simp (maxSteps := 4000000) only [go_sem, reduceIte, reduceCtorEq, Nat.reduceAdd, Nat.reduceSub, Nat.reduceMul, Nat.reduceLeDiff, Nat.reduceLT, Nat.reduceEqDiff, Nat.reduceBEq]
            exact h1 _ _ _ _ _ _ _ _ _ _ _ (p0.fail (Int.le_refl _) g1 hc _) (Keep.refl _ _) (by omega) (by omega) (by omega) (fun e => absurd e hc)
          · refine callBy cb40 (ih.function p0 room (by omega) hv fun r8 at8 nv8 ns8 deep8 df8 lp8 tp8 code8 pos8 L8 p8 k8 m8 t8 c8 q8 => ?_)
            simp (maxSteps := 4000000) only [go_sem, reduceIte, reduceCtorEq, Nat.reduceAdd, Nat.reduceSub, Nat.reduceMul, Nat.reduceLeDiff, Nat.reduceLT, Nat.reduceEqDiff, Nat.reduceBEq]
            exact h1 _ _ _ _ _ _ _ _ _ _ _ p8 k8 m8 t8 c8 q8
      · have hv := hv rfl
        have p1 := p0.step (at1 := at0 + 1) (code1 := code0) (by omega) hv id
        refine callBy cb34 (ihE.targets p1 (by omega) (by omega) fun r4 at4 nv4 ns4 deep4 df4 lp4 tp4 code4 pos4 L4 p4 k4 m4 t4 c4 q4 => ?_)
        simp (maxSteps := 4000000) only [go_sem, reduceIte, reduceCtorEq, Nat.reduceAdd, Nat.reduceSub, Nat.reduceMul, Nat.reduceLeDiff, Nat.reduceLT, Nat.reduceEqDiff, Nat.reduceBEq]
        refine callBy cb35 (c_want p4 fun v at6 code6 pos6 z1 z2 z3 z4 z5 => ?_)
        simp (maxSteps := 4000000) only [go_sem, reduceIte, reduceCtorEq, Nat.reduceAdd, Nat.reduceSub, Nat.reduceMul, Nat.reduceLeDiff, Nat.reduceLT, Nat.reduceEqDiff, Nat.reduceBEq]
        have p6 := p4.step (code1 := code6) z4 z5 (fun e => (z3 e).1)
        clear z1 z2
        refine callBy cb12 (c_bad (fun e6 => ?_) (fun e6 => ?_)) <;> simp (maxSteps := 4000000) only [go_sem, reduceIte, reduceCtorEq, Nat.reduceAdd, Nat.reduceSub, Nat.reduceMul, Nat.reduceLeDiff, Nat.reduceLT, Nat.reduceEqDiff, Nat.reduceBEq]
        · refine callBy cb36 (c_begins p6 fun v L7 gr7 => ?_)
          have p7 := p6.grow gr7
          cases v <;> simp (maxSteps := 4000000) only [go_sem, reduceIte, reduceCtorEq, Nat.reduceAdd, Nat.reduceSub, Nat.reduceMul, Nat.reduceLeDiff, Nat.reduceLT, Nat.reduceEqDiff, Nat.reduceBEq]
          · refine callBy cb37 (c_wrong p7 fun code7 pos7 hc => ?_)
            simp (maxSteps := 4000000) only [go_sem, reduceIte, reduceCtorEq, Nat.reduceAdd, Nat.reduceSub, Nat.reduceMul, Nat.reduceLeDiff, Nat.reduceLT, Nat.reduceEqDiff, Nat.reduceBEq]
            exact h1 _ _ _ _ _ _ _ _ _ _ _ (p7.fail (Int.le_refl _) (by omega) hc _) (k4.trans gr7.keep) (by omega) (by omega) (by omega) (fun e => absurd e hc)
          ·
            refine callBy cb38 (c_tuple p7 (by omega) fun r5 at5 nv5 ns5 deep5 df5 lp5 tp5 code5 pos5 L5 p5 k5 m5 t5 c5 q5 => ?_)
            simp (maxSteps := 4000000) only [go_sem, reduceIte, reduceCtorEq, Nat.reduceAdd, Nat.reduceSub, Nat.reduceMul, Nat.reduceLeDiff, Nat.reduceLT, Nat.reduceEqDiff, Nat.reduceBEq]
            refine callBy cb39 (ih.block p5 (by omega) (by omega) fun r8 at8 nv8 ns8 deep8 df8 lp8 tp8 code8 pos8 L8 p8 k8 m8 t8 c8 q8 => ?_)
            simp (maxSteps := 4000000) only [go_sem, reduceIte, reduceCtorEq, Nat.reduceAdd, Nat.reduceSub, Nat.reduceMul, Nat.reduceLeDiff, Nat.reduceLT, Nat.reduceEqDiff, Nat.reduceBEq]
            intro n hn hL
            refine callBy cb16 (c_put (ks := [r4, r5, r8]) ((p8.roots perm3r).grow (Grow.upd n)) (.inr ⟨some n, rfl⟩) (by omega) fun r20 nv20 ns20 L20 p20 k20 c20 => ?_)
            simp (maxSteps := 4000000) only [go_sem, reduceIte, reduceCtorEq, Nat.reduceAdd, Nat.reduceSub, Nat.reduceMul, Nat.reduceLeDiff, Nat.reduceLT, Nat.reduceEqDiff, Nat.reduceBEq]
            exact h1 _ _ _ _ _ _ _ _ _ _ _ p20 (((k4.trans gr7.keep).trans (k5.trans k8)).trans ((Grow.upd n).keep.trans k20)) (by omega) (by omega) (by omega) (fun e => ⟨e0, by omega⟩)
        ·
          refine callBy cb38 (c_tuple p6 (by omega) fun r5 at5 nv5 ns5 deep5 df5 lp5 tp5 code5 pos5 L5 p5 k5 m5 t5 c5 q5 => ?_)
          simp (maxSteps := 4000000) only [go_sem, reduceIte, reduceCtorEq, Nat.reduceAdd, Nat.reduceSub, Nat.reduceMul, Nat.reduceLeDiff, Nat.reduceLT, Nat.reduceEqDiff, Nat.reduceBEq]
          refine callBy cb39 (ih.block p5 (by omega) (by omega) fun r8 at8 nv8 ns8 deep8 df8 lp8 tp8 code8 pos8 L8 p8 k8 m8 t8 c8 q8 => ?_)
          simp (maxSteps := 4000000) only [go_sem, reduceIte, reduceCtorEq, Nat.reduceAdd, Nat.reduceSub, Nat.reduceMul, Nat.reduceLeDiff, Nat.reduceLT, Nat.reduceEqDiff, Nat.reduceBEq]
          intro n hn hL
          refine callBy cb16 (c_put (ks := [r4, r5, r8]) ((p8.roots perm3r).grow (Grow.upd n)) (.inr ⟨some n, rfl⟩) (by omega) fun r20 nv20 ns20 L20 p20 k20 c20 => ?_)
          simp (maxSteps := 4000000) only [go_sem, reduceIte, reduceCtorEq, Nat.reduceAdd, Nat.reduceSub, Nat.reduceMul, Nat.reduceLeDiff, Nat.reduceLT, Nat.reduceEqDiff, Nat.reduceBEq]
          exact h1 _ _ _ _ _ _ _ _ _ _ _ p20 ((k4.trans (k5.trans k8)).trans ((Grow.upd n).keep.trans k20)) (by omega) (by omega) (by omega) (fun e => ⟨e0, by omega⟩)
    · have hv := hv rfl
      refine callBy cb33 (ih.cond p0 room (by omega) hv fun r8 at8 nv8 ns8 deep8 df8 lp8 tp8 code8 pos8 L8 p8 k8 m8 t8 c8 q8 => ?_)
      simp (maxSteps := 4000000) only [go_sem, reduceIte, reduceCtorEq, Nat.reduceAdd, Nat.reduceSub, Nat.reduceMul, Nat.reduceLeDiff, Nat.reduceLT, Nat.reduceEqDiff, Nat.reduceBEq]
      exact h1 _ _ _ _ _ _ _ _ _ _ _ p8 k8 m8 t8 c8 q8
  · exact h1 _ _ _ _ _ _ _ _ _ _ _ (p0.bad e0 _) (Keep.refl _ _) (by omega) (by omega) (by omega) (fun e => absurd e e0)

end Go.Proofs.Ab5
end
