/-
  The reference parser: indexes.
-/
import Derived.Test.YtdgfmdjlhkjbaaaDb
set_option linter.all false
section
set_option maxRecDepth 10000
set_option maxHeartbeats 4000000
set_option linter.unusedSimpArgs false
set_option linter.unusedVariables false
namespace Go.Proofs.Ab5
open Go.Ab Go.Proofs
variable {ts : List Tok} {N : Nat}
theorem perm3r {a b c : Int} {R : List Int} : (c :: b :: a :: R).Perm (a :: b :: c :: R) :=
  (List.perm_middle (l₁ := [b, a]) (a := c) (l₂ := R)).symm.trans (.swap _ _ _)

theorem e_index (ih : AllE ts N) : CI ts (N + 1) 12 65 := by
  intro p b L ρt at0 nv0 deep0 df0 lp0 tp0 code0 pos0 ns0 R S a po p0 room hN hat h1
  have g0 := p0.pos
  have g1 := p0.lt
  have g2 := p0.tok.most
  refine acalls_of Try.func65 rfl (rd_ok hMix (κ := fun _ => false) δ0 _ rfl ?_)
  simp (maxSteps := 4000000) only [go_sem, reduceIte, reduceCtorEq, Nat.reduceAdd, Nat.reduceSub, Nat.reduceMul, Nat.reduceLeDiff, Nat.reduceLT, Nat.reduceEqDiff, Nat.reduceBEq, Try.ntmps65, Try.f65]
  refine callBy cb48 (c_enter fun v deep2 code2 pos2 y1 y2 y3 => ?_)
  cases v <;> simp (maxSteps := 4000000) only [go_sem, reduceIte, reduceCtorEq, Nat.reduceAdd, Nat.reduceSub, Nat.reduceMul, Nat.reduceLeDiff, Nat.reduceLT, Nat.reduceEqDiff, Nat.reduceBEq, p0.wrap1]
  · exact h1 _ _ _ _ _ _ _ _ _ _ _ (p0.fail (Int.le_refl _) g1 (y2 rfl) _) (Keep.refl _ _) (by omega) (by omega) (by omega) (fun e => absurd e (y2 rfl))
  · have e2 := y1 rfl
    have p3 := p0.step (at1 := at0 + 1) (code1 := code2) (by omega) hat y3
    refine callBy cb32 (c_is p3 fun v hv => ?_)
    cases v <;> simp (maxSteps := 4000000) only [go_sem, reduceIte, reduceCtorEq, Nat.reduceAdd, Nat.reduceSub, Nat.reduceMul, Nat.reduceLeDiff, Nat.reduceLT, Nat.reduceEqDiff, Nat.reduceBEq]
    · refine callBy cb47 (ih.test p3 (by omega) (by omega) fun r4 at4 nv4 ns4 deep4 df4 lp4 tp4 code4 pos4 L4 p4 k4 m4 t4 c4 q4 => ?_)
      simp (maxSteps := 4000000) only [go_sem, reduceIte, reduceCtorEq, Nat.reduceAdd, Nat.reduceSub, Nat.reduceMul, Nat.reduceLeDiff, Nat.reduceLT, Nat.reduceEqDiff, Nat.reduceBEq]
      refine callBy cb12 (c_bad (fun e4 => ?_) (fun e4 => ?_)) <;> simp (maxSteps := 4000000) only [go_sem, reduceIte, reduceCtorEq, Nat.reduceAdd, Nat.reduceSub, Nat.reduceMul, Nat.reduceLeDiff, Nat.reduceLT, Nat.reduceEqDiff, Nat.reduceBEq]
      · refine callBy cb32 (c_is p4 fun v hv => ?_)
        cases v <;> simp (maxSteps := 4000000) only [go_sem, reduceIte, reduceCtorEq, Nat.reduceAdd, Nat.reduceSub, Nat.reduceMul, Nat.reduceLeDiff, Nat.reduceLT, Nat.reduceEqDiff, Nat.reduceBEq, p4.wrap1]
        ·
          refine callBy cb35 (c_want p4 fun v at7 code7 pos7 z1 z2 z3 z4 z5 => ?_)
          cases v <;> simp (maxSteps := 4000000) only [go_sem, reduceIte, reduceCtorEq, Nat.reduceAdd, Nat.reduceSub, Nat.reduceMul, Nat.reduceLeDiff, Nat.reduceLT, Nat.reduceEqDiff, Nat.reduceBEq]
          · exact h1 _ _ _ _ _ _ _ _ _ _ _ (p4.fail z4 z5 (z2 rfl) _) k4 (by omega) (by omega) (by omega) (fun e => absurd e (z2 rfl))
          · have p7 := p4.step (code1 := code7) z4 z5 (fun e => (z3 e).1)
            have w7 := z3 (z1 rfl)
            clear z1 z2 z3
            refine callBy cb32 (c_is p7 fun v hv => ?_)
            cases v <;> simp (maxSteps := 4000000) only [go_sem, reduceIte, reduceCtorEq, Nat.reduceAdd, Nat.reduceSub, Nat.reduceMul, Nat.reduceLeDiff, Nat.reduceLT, Nat.reduceEqDiff, Nat.reduceBEq]
            · refine callBy cb47 (ih.test p7 (by omega) (by omega) fun r8 at8 nv8 ns8 deep8 df8 lp8 tp8 code8 pos8 L8 p8 k8 m8 t8 c8 q8 => ?_)
              simp (maxSteps := 4000000) only [go_sem, reduceIte, reduceCtorEq, Nat.reduceAdd, Nat.reduceSub, Nat.reduceMul, Nat.reduceLeDiff, Nat.reduceLT, Nat.reduceEqDiff, Nat.reduceBEq]
              refine callBy cb35 (c_want p8 fun v at9 code9 pos9 z1 z2 z3 z4 z5 => ?_)
              simp (maxSteps := 4000000) only [go_sem, reduceIte, reduceCtorEq, Nat.reduceAdd, Nat.reduceSub, Nat.reduceMul, Nat.reduceLeDiff, Nat.reduceLT, Nat.reduceEqDiff, Nat.reduceBEq]
              have p9 := p8.step (code1 := code9) z4 z5 (fun e => (z3 e).1)
              intro n hn hL
              refine callBy cb16 (c_put (ks := [a, r4, r8]) ((p9.roots perm3r).grow (Grow.upd n)) (.inr ⟨some n, rfl⟩) (by omega) fun r10 nv10 ns10 L10 p10 k10 c10 => ?_)
              simp (maxSteps := 4000000) only [go_sem, reduceIte, reduceCtorEq, Nat.reduceAdd, Nat.reduceSub, Nat.reduceMul, Nat.reduceLeDiff, Nat.reduceLT, Nat.reduceEqDiff, Nat.reduceBEq]
              exact h1 _ _ _ _ _ _ _ _ _ _ _ p10 (k4.trans (k8.trans ((Grow.upd n).keep.trans k10))) (by omega) (by omega) (by omega) (fun e => ⟨y3 e2, by omega⟩)
            · refine callBy cb13 (c_now p7 fun tok x1 x2 x3 => ?_)
              simp (maxSteps := 4000000) only [go_sem, reduceIte, reduceCtorEq, Nat.reduceAdd, Nat.reduceSub, Nat.reduceMul, Nat.reduceLeDiff, Nat.reduceLT, Nat.reduceEqDiff, Nat.reduceBEq]
              refine callBy cb16 (c_put (ks := []) p7 (.inl ⟨rfl, rfl⟩) (by omega) fun r8 nv8 ns8 L8 p8 k8 c8 => ?_)
              simp (maxSteps := 4000000) only [go_sem, reduceIte, reduceCtorEq, Nat.reduceAdd, Nat.reduceSub, Nat.reduceMul, Nat.reduceLeDiff, Nat.reduceLT, Nat.reduceEqDiff, Nat.reduceBEq]
              refine callBy cb35 (c_want p8 fun v at9 code9 pos9 z1 z2 z3 z4 z5 => ?_)
              simp (maxSteps := 4000000) only [go_sem, reduceIte, reduceCtorEq, Nat.reduceAdd, Nat.reduceSub, Nat.reduceMul, Nat.reduceLeDiff, Nat.reduceLT, Nat.reduceEqDiff, Nat.reduceBEq]
              have p9 := p8.step (code1 := code9) z4 z5 (fun e => (z3 e).1)
              intro n hn hL
              refine callBy cb16 (c_put (ks := [a, r4, r8]) ((p9.roots perm3r).grow (Grow.upd n)) (.inr ⟨some n, rfl⟩) (by omega) fun r10 nv10 ns10 L10 p10 k10 c10 => ?_)
              simp (maxSteps := 4000000) only [go_sem, reduceIte, reduceCtorEq, Nat.reduceAdd, Nat.reduceSub, Nat.reduceMul, Nat.reduceLeDiff, Nat.reduceLT, Nat.reduceEqDiff, Nat.reduceBEq]
              exact h1 _ _ _ _ _ _ _ _ _ _ _ p10 (k4.trans (k8.trans ((Grow.upd n).keep.trans k10))) (by omega) (by omega) (by omega) (fun e => ⟨y3 e2, by omega⟩)
        · have hv := hv rfl
          have p5 := p4.step (at1 := at4 + 1) (code1 := code4) (by omega) hv id
          intro n hn hL
          refine callBy cb16 (c_put (ks := [a, r4]) ((p5.roots (List.Perm.swap _ _ _)).grow (Grow.upd n)) (.inr ⟨some n, rfl⟩) (by omega) fun r10 nv10 ns10 L10 p10 k10 c10 => ?_)
          simp (maxSteps := 4000000) only [go_sem, reduceIte, reduceCtorEq, Nat.reduceAdd, Nat.reduceSub, Nat.reduceMul, Nat.reduceLeDiff, Nat.reduceLT, Nat.reduceEqDiff, Nat.reduceBEq]
          exact h1 _ _ _ _ _ _ _ _ _ _ _ p10 (k4.trans ((Grow.upd n).keep.trans k10)) (by omega) (by omega) (by omega) (fun e => ⟨y3 e2, by omega⟩)
      ·
        refine callBy cb35 (c_want p4 fun v at7 code7 pos7 z1 z2 z3 z4 z5 => ?_)
        cases v <;> simp (maxSteps := 4000000) only [go_sem, reduceIte, reduceCtorEq, Nat.reduceAdd, Nat.reduceSub, Nat.reduceMul, Nat.reduceLeDiff, Nat.reduceLT, Nat.reduceEqDiff, Nat.reduceBEq]
        · exact h1 _ _ _ _ _ _ _ _ _ _ _ (p4.fail z4 z5 (z2 rfl) _) k4 (by omega) (by omega) (by omega) (fun e => absurd e (z2 rfl))
        · have p7 := p4.step (code1 := code7) z4 z5 (fun e => (z3 e).1)
          have w7 := z3 (z1 rfl)
          clear z1 z2 z3
          refine callBy cb32 (c_is p7 fun v hv => ?_)
          cases v <;> simp (maxSteps := 4000000) only [go_sem, reduceIte, reduceCtorEq, Nat.reduceAdd, Nat.reduceSub, Nat.reduceMul, Nat.reduceLeDiff, Nat.reduceLT, Nat.reduceEqDiff, Nat.reduceBEq]
          · refine callBy cb47 (ih.test p7 (by omega) (by omega) fun r8 at8 nv8 ns8 deep8 df8 lp8 tp8 code8 pos8 L8 p8 k8 m8 t8 c8 q8 => ?_)
            simp (maxSteps := 4000000) only [go_sem, reduceIte, reduceCtorEq, Nat.reduceAdd, Nat.reduceSub, Nat.reduceMul, Nat.reduceLeDiff, Nat.reduceLT, Nat.reduceEqDiff, Nat.reduceBEq]
            refine callBy cb35 (c_want p8 fun v at9 code9 pos9 z1 z2 z3 z4 z5 => ?_)
            simp (maxSteps := 4000000) only [go_sem, reduceIte, reduceCtorEq, Nat.reduceAdd, Nat.reduceSub, Nat.reduceMul, Nat.reduceLeDiff, Nat.reduceLT, Nat.reduceEqDiff, Nat.reduceBEq]
            have p9 := p8.step (code1 := code9) z4 z5 (fun e => (z3 e).1)
            intro n hn hL
            refine callBy cb16 (c_put (ks := [a, r4, r8]) ((p9.roots perm3r).grow (Grow.upd n)) (.inr ⟨some n, rfl⟩) (by omega) fun r10 nv10 ns10 L10 p10 k10 c10 => ?_)
            simp (maxSteps := 4000000) only [go_sem, reduceIte, reduceCtorEq, Nat.reduceAdd, Nat.reduceSub, Nat.reduceMul, Nat.reduceLeDiff, Nat.reduceLT, Nat.reduceEqDiff, Nat.reduceBEq]
            exact h1 _ _ _ _ _ _ _ _ _ _ _ p10 (k4.trans (k8.trans ((Grow.upd n).keep.trans k10))) (by omega) (by omega) (by omega) (fun e => ⟨y3 e2, by omega⟩)
          · refine callBy cb13 (c_now p7 fun tok x1 x2 x3 => ?_)
            simp (maxSteps := 4000000) only [go_sem, reduceIte, reduceCtorEq, Nat.reduceAdd, Nat.reduceSub, Nat.reduceMul, Nat.reduceLeDiff, Nat.reduceLT, Nat.reduceEqDiff, Nat.reduceBEq]
            refine callBy cb16 (c_put (ks := []) p7 (.inl ⟨rfl, rfl⟩) (by omega) fun r8 nv8 ns8 L8 p8 k8 c8 => ?_)
            simp (maxSteps := 4000000) only [go_sem, reduceIte, reduceCtorEq, Nat.reduceAdd, Nat.reduceSub, Nat.reduceMul, Nat.reduceLeDiff, Nat.reduceLT, Nat.reduceEqDiff, Nat.reduceBEq]
            refine callBy cb35 (c_want p8 fun v at9 code9 pos9 z1 z2 z3 z4 z5 => ?_)
            simp (maxSteps := 4000000) only [go_sem, reduceIte, reduceCtorEq, Nat.reduceAdd, Nat.reduceSub, Nat.reduceMul, Nat.reduceLeDiff, Nat.reduceLT, Nat.reduceEqDiff, Nat.reduceBEq]
            have p9 := p8.step (code1 := code9) z4 z5 (fun e => (z3 e).1)
            intro n hn hL
            refine callBy cb16 (c_put (ks := [a, r4, r8]) ((p9.roots perm3r).grow (Grow.upd n)) (.inr ⟨some n, rfl⟩) (by omega) fun r10 nv10 ns10 L10 p10 k10 c10 => ?_)
            simp (maxSteps := 4000000) only [go_sem, reduceIte, reduceCtorEq, Nat.reduceAdd, Nat.reduceSub, Nat.reduceMul, Nat.reduceLeDiff, Nat.reduceLT, Nat.reduceEqDiff, Nat.reduceBEq]
            exact h1 _ _ _ _ _ _ _ _ _ _ _ p10 (k4.trans (k8.trans ((Grow.upd n).keep.trans k10))) (by omega) (by omega) (by omega) (fun e => ⟨y3 e2, by omega⟩)
    · refine callBy cb13 (c_now p3 fun tok x1 x2 x3 => ?_)
      simp (maxSteps := 4000000) only [go_sem, reduceIte, reduceCtorEq, Nat.reduceAdd, Nat.reduceSub, Nat.reduceMul, Nat.reduceLeDiff, Nat.reduceLT, Nat.reduceEqDiff, Nat.reduceBEq]
      refine callBy cb16 (c_put (ks := []) p3 (.inl ⟨rfl, rfl⟩) (by omega) fun r4 nv4 ns4 L4 p4 k4 c4 => ?_)
      simp (maxSteps := 4000000) only [go_sem, reduceIte, reduceCtorEq, Nat.reduceAdd, Nat.reduceSub, Nat.reduceMul, Nat.reduceLeDiff, Nat.reduceLT, Nat.reduceEqDiff, Nat.reduceBEq]
      refine callBy cb35 (c_want p4 fun v at7 code7 pos7 z1 z2 z3 z4 z5 => ?_)
      cases v <;> simp (maxSteps := 4000000) only [go_sem, reduceIte, reduceCtorEq, Nat.reduceAdd, Nat.reduceSub, Nat.reduceMul, Nat.reduceLeDiff, Nat.reduceLT, Nat.reduceEqDiff, Nat.reduceBEq]
      · exact h1 _ _ _ _ _ _ _ _ _ _ _ (p4.fail z4 z5 (z2 rfl) _) k4 (by omega) (by omega) (by omega) (fun e => absurd e (z2 rfl))
      · have p7 := p4.step (code1 := code7) z4 z5 (fun e => (z3 e).1)
        have w7 := z3 (z1 rfl)
        clear z1 z2 z3
        refine callBy cb32 (c_is p7 fun v hv => ?_)
        cases v <;> simp (maxSteps := 4000000) only [go_sem, reduceIte, reduceCtorEq, Nat.reduceAdd, Nat.reduceSub, Nat.reduceMul, Nat.reduceLeDiff, Nat.reduceLT, Nat.reduceEqDiff, Nat.reduceBEq]
        · refine callBy cb47 (ih.test p7 (by omega) (by omega) fun r8 at8 nv8 ns8 deep8 df8 lp8 tp8 code8 pos8 L8 p8 k8 m8 t8 c8 q8 => ?_)
          simp (maxSteps := 4000000) only [go_sem, reduceIte, reduceCtorEq, Nat.reduceAdd, Nat.reduceSub, Nat.reduceMul, Nat.reduceLeDiff, Nat.reduceLT, Nat.reduceEqDiff, Nat.reduceBEq]
          refine callBy cb35 (c_want p8 fun v at9 code9 pos9 z1 z2 z3 z4 z5 => ?_)
          simp (maxSteps := 4000000) only [go_sem, reduceIte, reduceCtorEq, Nat.reduceAdd, Nat.reduceSub, Nat.reduceMul, Nat.reduceLeDiff, Nat.reduceLT, Nat.reduceEqDiff, Nat.reduceBEq]
          have p9 := p8.step (code1 := code9) z4 z5 (fun e => (z3 e).1)
          intro n hn hL
          refine callBy cb16 (c_put (ks := [a, r4, r8]) ((p9.roots perm3r).grow (Grow.upd n)) (.inr ⟨some n, rfl⟩) (by omega) fun r10 nv10 ns10 L10 p10 k10 c10 => ?_)
          simp (maxSteps := 4000000) only [go_sem, reduceIte, reduceCtorEq, Nat.reduceAdd, Nat.reduceSub, Nat.reduceMul, Nat.reduceLeDiff, Nat.reduceLT, Nat.reduceEqDiff, Nat.reduceBEq]
          exact h1 _ _ _ _ _ _ _ _ _ _ _ p10 (k4.trans (k8.trans ((Grow.upd n).keep.trans k10))) (by omega) (by omega) (by omega) (fun e => ⟨y3 e2, by omega⟩)
        · refine callBy cb13 (c_now p7 fun tok x1 x2 x3 => ?_)
          simp (maxSteps := 4000000) only [go_sem, reduceIte, reduceCtorEq, Nat.reduceAdd, Nat.reduceSub, Nat.reduceMul, Nat.reduceLeDiff, Nat.reduceLT, Nat.reduceEqDiff, Nat.reduceBEq]
          refine callBy cb16 (c_put (ks := []) p7 (.inl ⟨rfl, rfl⟩) (by omega) fun r8 nv8 ns8 L8 p8 k8 c8 => ?_)
          simp (maxSteps := 4000000) only [go_sem, reduceIte, reduceCtorEq, Nat.reduceAdd, Nat.reduceSub, Nat.reduceMul, Nat.reduceLeDiff, Nat.reduceLT, Nat.reduceEqDiff, Nat.reduceBEq]
          refine callBy cb35 (c_want p8 fun v at9 code9 pos9 z1 z2 z3 z4 z5 => ?_)
          simp (maxSteps := 4000000) only [go_sem, reduceIte, reduceCtorEq, Nat.reduceAdd, Nat.reduceSub, Nat.reduceMul, Nat.reduceLeDiff, Nat.reduceLT, Nat.reduceEqDiff, Nat.reduceBEq]
          have p9 := p8.step (code1 := code9) z4 z5 (fun e => (z3 e).1)
          intro n hn hL
          refine callBy cb16 (c_put (ks := [a, r4, r8]) ((p9.roots perm3r).grow (Grow.upd n)) (.inr ⟨some n, rfl⟩) (by omega) fun r10 nv10 ns10 L10 p10 k10 c10 => ?_)
          simp (maxSteps := 4000000) only [go_sem, reduceIte, reduceCtorEq, Nat.reduceAdd, Nat.reduceSub, Nat.reduceMul, Nat.reduceLeDiff, Nat.reduceLT, Nat.reduceEqDiff, Nat.reduceBEq]
          exact h1 _ _ _ _ _ _ _ _ _ _ _ p10 (k4.trans (k8.trans ((Grow.upd n).keep.trans k10))) (by omega) (by omega) (by omega) (fun e => ⟨y3 e2, by omega⟩)

end Go.Proofs.Ab5
end
/- The reference parser: square brackets. -/
section
set_option maxRecDepth 10000
set_option maxHeartbeats 4000000
set_option linter.unusedSimpArgs false
set_option linter.unusedVariables false
namespace Go.Proofs.Ab5
open Go.Ab Go.Proofs
variable {ts : List Tok} {N : Nat}
theorem e_square (ih : AllE ts N) : CB ts (N + 1) 12 68 := by
  intro p b L ρt at0 nv0 deep0 df0 lp0 tp0 code0 pos0 ns0 R S po p0 room hN hat h1
  have g0 := p0.pos
  have g1 := p0.lt
  have g2 := p0.tok.most
  refine acalls_of Try.func68 rfl (rd_ok hMix (κ := fun _ => false) δ0 _ rfl ?_)
  simp (maxSteps := 4000000) only [go_sem, reduceIte, reduceCtorEq, Nat.reduceAdd, Nat.reduceSub, Nat.reduceMul, Nat.reduceLeDiff, Nat.reduceLT, Nat.reduceEqDiff, Nat.reduceBEq, Try.ntmps68, Try.f68]
  refine callBy cb48 (c_enter fun v deep2 code2 pos2 y1 y2 y3 => ?_)
  cases v <;> simp (maxSteps := 4000000) only [go_sem, reduceIte, reduceCtorEq, Nat.reduceAdd, Nat.reduceSub, Nat.reduceMul, Nat.reduceLeDiff, Nat.reduceLT, Nat.reduceEqDiff, Nat.reduceBEq, p0.wrap1]
  · exact h1 _ _ _ _ _ _ _ _ _ _ _ (p0.fail (Int.le_refl _) g1 (y2 rfl) _) (Keep.refl _ _) (by omega) (by omega) (by omega) (fun e => absurd e (y2 rfl))
  · have e2 := y1 rfl
    have p3 := p0.step (at1 := at0 + 1) (code1 := code2) (by omega) hat y3
    refine callBy cb32 (c_is p3 fun v hv => ?_)
    cases v <;> simp (maxSteps := 4000000) only [go_sem, reduceIte, reduceCtorEq, Nat.reduceAdd, Nat.reduceSub, Nat.reduceMul, Nat.reduceLeDiff, Nat.reduceLT, Nat.reduceEqDiff, Nat.reduceBEq, p3.wrap1]
    · refine callBy cb47 (ih.test p3 (by omega) (by omega) fun r4 at4 nv4 ns4 deep4 df4 lp4 tp4 code4 pos4 L4 p4 k4 m4 t4 c4 q4 => ?_)
      simp (maxSteps := 4000000) only [go_sem, reduceIte, reduceCtorEq, Nat.reduceAdd, Nat.reduceSub, Nat.reduceMul, Nat.reduceLeDiff, Nat.reduceLT, Nat.reduceEqDiff, Nat.reduceBEq]
      refine callBy cb12 (c_bad (fun e4 => ?_) (fun e4 => ?_)) <;> simp (maxSteps := 4000000) only [go_sem, reduceIte, reduceCtorEq, Nat.reduceAdd, Nat.reduceSub, Nat.reduceMul, Nat.reduceLeDiff, Nat.reduceLT, Nat.reduceEqDiff, Nat.reduceBEq]
      · refine callBy cb32 (c_is p4 fun v hv => ?_)
        cases v <;> simp (maxSteps := 4000000) only [go_sem, reduceIte, reduceCtorEq, Nat.reduceAdd, Nat.reduceSub, Nat.reduceMul, Nat.reduceLeDiff, Nat.reduceLT, Nat.reduceEqDiff, Nat.reduceBEq, p4.wrap1]
        ·
          refine callBy cb51 (ih.rest p4 (by omega) (by omega) fun lv5 l5 comma at5 nv5 ns5 deep5 df5 lp5 tp5 code5 pos5 L5 i5 s5 p5 k5 m5 t5 c5 d5 q5 => ?_)
          simp (maxSteps := 4000000) only [go_sem, reduceIte, reduceCtorEq, Nat.reduceAdd, Nat.reduceSub, Nat.reduceMul, Nat.reduceLeDiff, Nat.reduceLT, Nat.reduceEqDiff, Nat.reduceBEq]
          refine callBy cb35 (c_want p5 fun v at9 code9 pos9 z1 z2 z3 z4 z5 => ?_)
          simp (maxSteps := 4000000) only [go_sem, reduceIte, reduceCtorEq, Nat.reduceAdd, Nat.reduceSub, Nat.reduceMul, Nat.reduceLeDiff, Nat.reduceLT, Nat.reduceEqDiff, Nat.reduceBEq, i5.loc]
          have p9 := p5.step (code1 := code9) z4 z5 (fun e => (z3 e).1)
          refine callBy cb16 (c_put (ks := l5) p9 i5 (by omega) fun r20 nv20 ns20 L20 p20 k20 c20 => ?_)
          simp (maxSteps := 4000000) only [go_sem, reduceIte, reduceCtorEq, Nat.reduceAdd, Nat.reduceSub, Nat.reduceMul, Nat.reduceLeDiff, Nat.reduceLT, Nat.reduceEqDiff, Nat.reduceBEq]
          exact h1 _ _ _ _ _ _ _ _ _ _ _ p20 ((k4.trans k5).trans k20) (by omega) (by omega) (by omega) (fun e => ⟨y3 e2, by omega⟩)
        · have hv := hv rfl
          have p5 := p4.step (at1 := at4 + 1) (code1 := code4) (by omega) hv id
          refine callBy cb34 (ih.targets p5 (by omega) (by omega) fun r6 at6 nv6 ns6 deep6 df6 lp6 tp6 code6 pos6 L6 p6 k6 m6 t6 c6 q6 => ?_)
          simp (maxSteps := 4000000) only [go_sem, reduceIte, reduceCtorEq, Nat.reduceAdd, Nat.reduceSub, Nat.reduceMul, Nat.reduceLeDiff, Nat.reduceLT, Nat.reduceEqDiff, Nat.reduceBEq]
          refine callBy cb35 (c_want p6 fun v at7 code7 pos7 z1 z2 z3 z4 z5 => ?_)
          simp (maxSteps := 4000000) only [go_sem, reduceIte, reduceCtorEq, Nat.reduceAdd, Nat.reduceSub, Nat.reduceMul, Nat.reduceLeDiff, Nat.reduceLT, Nat.reduceEqDiff, Nat.reduceBEq]
          have p7 := p6.step (code1 := code7) z4 z5 (fun e => (z3 e).1)
          clear z1 z2
          refine callBy cb56 (ih.or p7 (by omega) (by omega) fun r8 at8 nv8 ns8 deep8 df8 lp8 tp8 code8 pos8 L8 p8 k8 m8 t8 c8 q8 => ?_)
          simp (maxSteps := 4000000) only [go_sem, reduceIte, reduceCtorEq, Nat.reduceAdd, Nat.reduceSub, Nat.reduceMul, Nat.reduceLeDiff, Nat.reduceLT, Nat.reduceEqDiff, Nat.reduceBEq]
          intro n0 hn0 hL0
          have a8 : Acc (upd L8 n0 true) nv8 (.list (some n0) 1 (icells [r4, r6, r8])) [r4, r6, r8] := Acc.new p8.nodes.own hL0
          have k10 := (k4.trans (k6.trans k8)).trans (Grow.upd n0).keep
          have f8 : Fr L nv0 (.list (some n0) 1 (icells [r4, r6, r8])) := Fr.new (k4.trans (k6.trans k8)) hL0
          have p10 := (p8.roots (R' := [r4, r6, r8] ++ R) perm3r).grow (Grow.upd n0)
          refine callBy cb12 (c_bad (fun e8 => ?_) (fun e8 => ?_)) <;> simp (maxSteps := 4000000) only [go_sem, reduceIte, reduceCtorEq, Nat.reduceAdd, Nat.reduceSub, Nat.reduceMul, Nat.reduceLeDiff, Nat.reduceLT, Nat.reduceEqDiff, Nat.reduceBEq]
          · refine callBy cb32 (c_is p10 fun v hv => ?_)
            cases v <;> simp (maxSteps := 4000000) only [go_sem, reduceIte, reduceCtorEq, Nat.reduceAdd, Nat.reduceSub, Nat.reduceMul, Nat.reduceLeDiff, Nat.reduceLT, Nat.reduceEqDiff, Nat.reduceBEq, p10.wrap1]
            ·
              refine callBy cb35 (c_want p10 fun v at9 code9 pos9 z1 z2 z3 z4 z5 => ?_)
              simp (maxSteps := 4000000) only [go_sem, reduceIte, reduceCtorEq, Nat.reduceAdd, Nat.reduceSub, Nat.reduceMul, Nat.reduceLeDiff, Nat.reduceLT, Nat.reduceEqDiff, Nat.reduceBEq, a8.ints.loc]
              have p9 := p10.step (code1 := code9) z4 z5 (fun e => (z3 e).1)
              refine callBy cb16 (c_put (ks := [r4, r6, r8]) p9 a8.ints (by omega) fun r20 nv20 ns20 L20 p20 k20 c20 => ?_)
              simp (maxSteps := 4000000) only [go_sem, reduceIte, reduceCtorEq, Nat.reduceAdd, Nat.reduceSub, Nat.reduceMul, Nat.reduceLeDiff, Nat.reduceLT, Nat.reduceEqDiff, Nat.reduceBEq]
              exact h1 _ _ _ _ _ _ _ _ _ _ _ p20 (k10.trans k20) (by omega) (by omega) (by omega) (fun e => ⟨y3 e2, by omega⟩)
            · have hv := hv rfl
              have p11 := p10.step (at1 := at8 + 1) (code1 := code8) (by omega) hv id
              refine callBy cb56 (ih.or p11 (by omega) (by omega) fun r12 at12 nv12 ns12 deep12 df12 lp12 tp12 code12 pos12 L12 p12 k12 m12 t12 c12 q12 => ?_)
              simp (maxSteps := 4000000) only [go_sem, reduceIte, reduceCtorEq, Nat.reduceAdd, Nat.reduceSub, Nat.reduceMul, Nat.reduceLeDiff, Nat.reduceLT, Nat.reduceEqDiff, Nat.reduceBEq]
              intro n hn hL n2 hn2 hL2
              have a12 := (a8.keep k12).grow (Grow.upd n)
              refine append_acc (ks := [r4, r6, r8]) a12 (p12.grow (Grow.upd n)).nodes.own hL2 [r12] (by simp) rfl (by decide) fun v13 L13 a13 k13 => ?_
              simp (maxSteps := 4000000) only [go_sem, reduceIte, reduceCtorEq, Nat.reduceAdd, Nat.reduceSub, Nat.reduceMul, Nat.reduceLeDiff, Nat.reduceLT, Nat.reduceEqDiff, Nat.reduceBEq]
              have p13 := ((p12.grow (Grow.upd n)).acc a12.ne k13).roots (R' := ([r4, r6, r8] ++ [r12]) ++ R) (by rw [List.append_assoc]; exact List.perm_middle.symm)
              have k14 := (k10.trans (k12.trans (Grow.upd n).keep)).acc f8 k13
              refine callBy cb35 (c_want p13 fun v at9 code9 pos9 z1 z2 z3 z4 z5 => ?_)
              simp (maxSteps := 4000000) only [go_sem, reduceIte, reduceCtorEq, Nat.reduceAdd, Nat.reduceSub, Nat.reduceMul, Nat.reduceLeDiff, Nat.reduceLT, Nat.reduceEqDiff, Nat.reduceBEq, a13.ints.loc]
              have p9 := p13.step (code1 := code9) z4 z5 (fun e => (z3 e).1)
              refine callBy cb16 (c_put (ks := ([r4, r6, r8] ++ [r12])) p9 a13.ints (by omega) fun r20 nv20 ns20 L20 p20 k20 c20 => ?_)
              simp (maxSteps := 4000000) only [go_sem, reduceIte, reduceCtorEq, Nat.reduceAdd, Nat.reduceSub, Nat.reduceMul, Nat.reduceLeDiff, Nat.reduceLT, Nat.reduceEqDiff, Nat.reduceBEq]
              exact h1 _ _ _ _ _ _ _ _ _ _ _ p20 (k14.trans k20) (by omega) (by omega) (by omega) (fun e => ⟨y3 e2, by omega⟩)
          ·
            refine callBy cb35 (c_want p10 fun v at9 code9 pos9 z1 z2 z3 z4 z5 => ?_)
            simp (maxSteps := 4000000) only [go_sem, reduceIte, reduceCtorEq, Nat.reduceAdd, Nat.reduceSub, Nat.reduceMul, Nat.reduceLeDiff, Nat.reduceLT, Nat.reduceEqDiff, Nat.reduceBEq, a8.ints.loc]
            have p9 := p10.step (code1 := code9) z4 z5 (fun e => (z3 e).1)
            refine callBy cb16 (c_put (ks := [r4, r6, r8]) p9 a8.ints (by omega) fun r20 nv20 ns20 L20 p20 k20 c20 => ?_)
            simp (maxSteps := 4000000) only [go_sem, reduceIte, reduceCtorEq, Nat.reduceAdd, Nat.reduceSub, Nat.reduceMul, Nat.reduceLeDiff, Nat.reduceLT, Nat.reduceEqDiff, Nat.reduceBEq]
            exact h1 _ _ _ _ _ _ _ _ _ _ _ p20 (k10.trans k20) (by omega) (by omega) (by omega) (fun e => ⟨y3 e2, by omega⟩)
      ·
        refine callBy cb51 (ih.rest p4 (by omega) (by omega) fun lv5 l5 comma at5 nv5 ns5 deep5 df5 lp5 tp5 code5 pos5 L5 i5 s5 p5 k5 m5 t5 c5 d5 q5 => ?_)
        simp (maxSteps := 4000000) only [go_sem, reduceIte, reduceCtorEq, Nat.reduceAdd, Nat.reduceSub, Nat.reduceMul, Nat.reduceLeDiff, Nat.reduceLT, Nat.reduceEqDiff, Nat.reduceBEq]
        refine callBy cb35 (c_want p5 fun v at9 code9 pos9 z1 z2 z3 z4 z5 => ?_)
        simp (maxSteps := 4000000) only [go_sem, reduceIte, reduceCtorEq, Nat.reduceAdd, Nat.reduceSub, Nat.reduceMul, Nat.reduceLeDiff, Nat.reduceLT, Nat.reduceEqDiff, Nat.reduceBEq, i5.loc]
        have p9 := p5.step (code1 := code9) z4 z5 (fun e => (z3 e).1)
        refine callBy cb16 (c_put (ks := l5) p9 i5 (by omega) fun r20 nv20 ns20 L20 p20 k20 c20 => ?_)
        simp (maxSteps := 4000000) only [go_sem, reduceIte, reduceCtorEq, Nat.reduceAdd, Nat.reduceSub, Nat.reduceMul, Nat.reduceLeDiff, Nat.reduceLT, Nat.reduceEqDiff, Nat.reduceBEq]
        exact h1 _ _ _ _ _ _ _ _ _ _ _ p20 ((k4.trans k5).trans k20) (by omega) (by omega) (by omega) (fun e => ⟨y3 e2, by omega⟩)
    · have hv := hv rfl
      have p4 := p3.step (at1 := at0 + 1 + 1) (code1 := code2) (by omega) hv id
      refine callBy cb16 (c_put (ks := []) p4 (.inl ⟨rfl, rfl⟩) (by omega) fun r7 nv7 ns7 L7 p7 k7 c7 => ?_)
      simp (maxSteps := 4000000) only [go_sem, reduceIte, reduceCtorEq, Nat.reduceAdd, Nat.reduceSub, Nat.reduceMul, Nat.reduceLeDiff, Nat.reduceLT, Nat.reduceEqDiff, Nat.reduceBEq]
      exact h1 _ _ _ _ _ _ _ _ _ _ _ p7 k7 (by omega) (by omega) (by omega) (fun e => ⟨y3 e2, by omega⟩)

end Go.Proofs.Ab5
end
