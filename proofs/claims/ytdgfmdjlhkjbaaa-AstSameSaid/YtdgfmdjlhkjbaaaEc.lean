/-
  The reference parser: what stands with commas between.
-/
import Derived.Test.YtdgfmdjlhkjbaaaDb
set_option linter.all false
section
set_option maxRecDepth 10000
set_option maxHeartbeats 4000000
set_option linter.unusedSimpArgs false
set_option linter.unusedVariables false
namespace Go.Proofs.Ab5
open Go.Ab Go.Proofs
variable {ts : List Tok} {N : Nat}
theorem e_rest (ih : AllE ts N) : CR ts (N + 1) 12 51 := by
  intro p b L ρt at0 nv0 deep0 df0 lp0 tp0 code0 pos0 ns0 R S a0 p0 room hN h1
  have g0 := p0.pos
  have g1 := p0.lt
  have g2 := p0.tok.most
  refine acalls_of Try.func51 rfl (rd_ok hMix (κ := fun _ => false) δ0 _ rfl ?_)
  simp (maxSteps := 4000000) only [go_sem, reduceIte, reduceCtorEq, Nat.reduceAdd, Nat.reduceSub, Nat.reduceMul, Nat.reduceLeDiff, Nat.reduceLT, Nat.reduceEqDiff, Nat.reduceBEq, Try.ntmps51, Try.f51]
  intro n0 hn0 hL0
  refine AWp.loop_st [true, false, false, false, false, false, true, true, false, false, false, false, false, false, false, false, false, false, false, false, false, false, false, false, false, false, false, false, false, false, false, false, false, false, false] [] (fun x : LS => ⟨[.ptr p 0, .any, .any, .any, .any, .any, x.lv, .bool x.f, .any, .any, .any, .any, .any, .any, .any, .any, .any, .any, .any, .any, .any, .any, .any, .any, .any, .any, .any, .any, .any, .any, .any, .any, .any, .any, .any], []⟩) (fun x => ⟨upd b p (some (pcells ρt ts x.at' x.nv x.deep x.df x.lp x.tp x.code x.pos)), x.L⟩)
    (fun x => PI ts x.at' x.nv x.ns x.code x.L (x.l ++ R) ∧ Acc x.L x.nv x.lv x.l ∧ Fr L nv0 x.lv ∧ Keep L nv0 x.L x.nv ∧ at0 ≤ x.at' ∧ (x.ns.length : Int) + at0 ≤ ns0.length + x.at' ∧ (x.f = true → (x.ns.length : Int) + at0 + 1 ≤ ns0.length + x.at') ∧ (x.code = 0 → code0 = 0) ∧ (x.f = false → x.l = [a0]) ∧ (x.l.length : Int) + at0 ≤ x.at' + 1)
    (fun x => (ts.length - x.at').toNat) ⟨0, at0, nv0, ns0, deep0, df0, lp0, tp0, code0, pos0, upd L n0 true, .list (some n0) 1 (icells [a0]), [a0], false⟩ ?_ ?_ rfl ⟨p0.grow (Grow.upd n0), Acc.new p0.nodes.own hL0, Fr.new (Keep.refl _ _) hL0, (Grow.upd n0).keep, by dsimp only; omega, by dsimp only; omega, by simp, id, by simp, by simp; omega⟩ ?_
  · simp (maxSteps := 4000000) only [go_sem, reduceIte, reduceCtorEq, Nat.reduceAdd, Nat.reduceSub, Nat.reduceMul, Nat.reduceLeDiff, Nat.reduceLT, Nat.reduceEqDiff, Nat.reduceBEq]
  · simp (maxSteps := 4000000) only [go_sem, reduceIte, reduceCtorEq, Nat.reduceAdd, Nat.reduceSub, Nat.reduceMul, Nat.reduceLeDiff, Nat.reduceLT, Nat.reduceEqDiff, Nat.reduceBEq, icells]
  rintro ⟨a, at2, nv2, ns2, deep2, df2, lp2, tp2, code2, pos2, L2, lv2, l2, f2⟩ ⟨p2, a2, f2', k2, m2, c2, d2, q2, s2, l2'⟩
  dsimp only at p2 a2 f2' k2 m2 c2 d2 q2 s2 l2' ⊢
  have g3 := p2.pos
  have g4 := p2.lt
  refine rd_ok hMix (κ := fun _ => false) δ0 _ rfl ?_
  simp (maxSteps := 4000000) only [go_sem, reduceIte, reduceCtorEq, Nat.reduceAdd, Nat.reduceSub, Nat.reduceMul, Nat.reduceLeDiff, Nat.reduceLT, Nat.reduceEqDiff, Nat.reduceBEq]
  refine callBy cb12 (c_bad (fun e2 => ?_) (fun e2 => ?_)) <;> simp (maxSteps := 4000000) only [go_sem, reduceIte, reduceCtorEq, Nat.reduceAdd, Nat.reduceSub, Nat.reduceMul, Nat.reduceLeDiff, Nat.reduceLT, Nat.reduceEqDiff, Nat.reduceBEq, a2.ints.one, a2.ints.loc, Bool.false_eq_true, not_false_eq_true]
  · refine callBy cb32 (c_is p2 fun v hv => ?_)
    cases v <;> simp (maxSteps := 4000000) only [go_sem, reduceIte, reduceCtorEq, Nat.reduceAdd, Nat.reduceSub, Nat.reduceMul, Nat.reduceLeDiff, Nat.reduceLT, Nat.reduceEqDiff, Nat.reduceBEq, a2.ints.one, a2.ints.loc, Bool.false_eq_true, not_false_eq_true]
    · exact h1 lv2 l2 f2 _ _ _ _ _ _ _ _ _ _ a2.ints s2 p2 k2 m2 g4 c2 d2 q2
    · have hv := hv rfl
      simp (maxSteps := 4000000) only [go_sem, reduceIte, reduceCtorEq, Nat.reduceAdd, Nat.reduceSub, Nat.reduceMul, Nat.reduceLeDiff, Nat.reduceLT, Nat.reduceEqDiff, Nat.reduceBEq, p2.wrap1]
      have p3 := p2.step (at1 := at2 + 1) (code1 := code2) (by omega) hv id
      refine callBy cb36 (c_begins p3 fun v L3 gr3 => ?_)
      have p3 := p3.grow gr3
      have a3 := a2.grow gr3
      have k3 := k2.trans gr3.keep
      cases v <;> simp (maxSteps := 4000000) only [go_sem, reduceIte, reduceCtorEq, Nat.reduceAdd, Nat.reduceSub, Nat.reduceMul, Nat.reduceLeDiff, Nat.reduceLT, Nat.reduceEqDiff, Nat.reduceBEq, a2.ints.one, a2.ints.loc, Bool.false_eq_true, not_false_eq_true]
      · exact h1 lv2 l2 true _ _ _ _ _ _ _ _ _ _ a2.ints (by simp) p3 k3 (by omega) hv (by omega) (fun _ => by omega) q2
      · refine callBy cb47 (ih.test p3 (by omega) (by omega) fun r4 at4 nv4 ns4 deep4 df4 lp4 tp4 code4 pos4 L4 p4 k4 m4 t4 c4 q4 => ?_)
        simp (maxSteps := 4000000) only [go_sem, reduceIte, reduceCtorEq, Nat.reduceAdd, Nat.reduceSub, Nat.reduceMul, Nat.reduceLeDiff, Nat.reduceLT, Nat.reduceEqDiff, Nat.reduceBEq]
        intro n hn hL n2 hn2 hL2
        have p5 := p4.grow (Grow.upd n)
        have k5 := k3.trans (k4.trans (Grow.upd n).keep)
        refine append_acc (ks := l2) ((a3.keep k4).grow (Grow.upd n)) p5.nodes.own hL2 [r4] (by simp; omega) rfl (by decide) fun v6 L6 a6 k6 => ?_
        simp (maxSteps := 4000000) only [go_sem, reduceIte, reduceCtorEq, Nat.reduceAdd, Nat.reduceSub, Nat.reduceMul, Nat.reduceLeDiff, Nat.reduceLT, Nat.reduceEqDiff, Nat.reduceBEq, a2.ints.loc, a6.ints.loc]
        refine ⟨⟨0, at4, nv4, ns4, deep4, df4, lp4, tp4, code4, pos4, L6, v6, l2 ++ [r4], true⟩, rfl, rfl, ⟨(p5.acc (a3.keep k4).ne k6).roots (by rw [List.append_assoc]; exact List.perm_middle.symm), a6, Fr.acc k5 f2' k6, k5.acc f2' k6, ?_, ?_, ?_, ?_, ?_, ?_⟩, ?_⟩
        all_goals dsimp only
        · omega
        · omega
        · intro _; omega
        · intro e; exact q2 (q4 e).1
        · simp
        · simp; omega
        · omega
  · exact h1 lv2 l2 f2 _ _ _ _ _ _ _ _ _ _ a2.ints s2 p2 k2 m2 g4 c2 d2 q2

end Go.Proofs.Ab5
end
/- The reference parser: tests, round brackets. -/
section
set_option maxRecDepth 10000
set_option maxHeartbeats 4000000
set_option linter.unusedSimpArgs false
set_option linter.unusedVariables false
namespace Go.Proofs.Ab5
open Go.Ab Go.Proofs
variable {ts : List Tok} {N : Nat}
theorem e_test (ih : AllE ts N) : CE ts (N + 1) 24 47 := by
  intro p b L ρt at0 nv0 deep0 df0 lp0 tp0 code0 pos0 ns0 R S p0 room hN h1
  have g0 := p0.pos
  have g1 := p0.lt
  have g2 := p0.tok.most
  refine acalls_of Try.func47 rfl (rd_ok hMix (κ := fun _ => false) δ0 _ rfl ?_)
  simp (maxSteps := 4000000) only [go_sem, reduceIte, reduceCtorEq, Nat.reduceAdd, Nat.reduceSub, Nat.reduceMul, Nat.reduceLeDiff, Nat.reduceLT, Nat.reduceEqDiff, Nat.reduceBEq, Try.ntmps47, Try.f47]
  refine callBy cb56 (ih.or p0 room (by omega) fun r1 at1 nv1 ns1 deep1 df1 lp1 tp1 code1 pos1 L1 p1 k1 m1 t1 c1 q1 => ?_)
  simp (maxSteps := 4000000) only [go_sem, reduceIte, reduceCtorEq, Nat.reduceAdd, Nat.reduceSub, Nat.reduceMul, Nat.reduceLeDiff, Nat.reduceLT, Nat.reduceEqDiff, Nat.reduceBEq]
  have g3 := p1.pos
  refine callBy cb12 (c_bad (fun e1 => ?_) (fun e1 => ?_)) <;> simp (maxSteps := 4000000) only [go_sem, reduceIte, reduceCtorEq, Nat.reduceAdd, Nat.reduceSub, Nat.reduceMul, Nat.reduceLeDiff, Nat.reduceLT, Nat.reduceEqDiff, Nat.reduceBEq]
  · have w1 := q1 e1
    refine callBy cb32 (c_is p1 fun v hv => ?_)
    cases v <;> simp (maxSteps := 4000000) only [go_sem, reduceIte, reduceCtorEq, Nat.reduceAdd, Nat.reduceSub, Nat.reduceMul, Nat.reduceLeDiff, Nat.reduceLT, Nat.reduceEqDiff, Nat.reduceBEq]
    · exact h1 _ _ _ _ _ _ _ _ _ _ _ p1 k1 m1 t1 c1 q1
    · have hv := hv rfl
      refine callBy cb13 (c_now p1 fun tok x1 x2 x3 => ?_)
      simp (maxSteps := 4000000) only [go_sem, reduceIte, reduceCtorEq, Nat.reduceAdd, Nat.reduceSub, Nat.reduceMul, Nat.reduceLeDiff, Nat.reduceLT, Nat.reduceEqDiff, Nat.reduceBEq]
      refine callBy cb48 (c_enter fun v deep2 code2 pos2 y1 y2 y3 => ?_)
      cases v <;> simp (maxSteps := 4000000) only [go_sem, reduceIte, reduceCtorEq, Nat.reduceAdd, Nat.reduceSub, Nat.reduceMul, Nat.reduceLeDiff, Nat.reduceLT, Nat.reduceEqDiff, Nat.reduceBEq, p1.wrap1]
      · exact h1 _ _ _ _ _ _ _ _ _ _ _ (p1.fail (Int.le_refl _) t1 (y2 rfl) _) k1 (by omega) (by omega) (by omega) (fun e => absurd e (y2 rfl))
      · have p3 := p1.step (at1 := at1 + 1) (code1 := code2) (by omega) hv y3
        refine callBy cb56 (ih.or p3 (by omega) (by omega) fun r4 at4 nv4 ns4 deep4 df4 lp4 tp4 code4 pos4 L4 p4 k4 m4 t4 c4 q4 => ?_)
        simp (maxSteps := 4000000) only [go_sem, reduceIte, reduceCtorEq, Nat.reduceAdd, Nat.reduceSub, Nat.reduceMul, Nat.reduceLeDiff, Nat.reduceLT, Nat.reduceEqDiff, Nat.reduceBEq]
        refine callBy cb35 (c_want p4 fun v at5 code5 pos5 z1 z2 z3 z4 z5 => ?_)
        cases v <;> simp (maxSteps := 4000000) only [go_sem, reduceIte, reduceCtorEq, Nat.reduceAdd, Nat.reduceSub, Nat.reduceMul, Nat.reduceLeDiff, Nat.reduceLT, Nat.reduceEqDiff, Nat.reduceBEq]
        · exact h1 _ _ _ _ _ _ _ _ _ _ _ (p4.fail z4 z5 (z2 rfl) _) (k1.trans k4) (by omega) (by omega) (by omega) (fun e => absurd e (z2 rfl))
        · have p5 := p4.step (code1 := code5) z4 z5 (fun e => (z3 e).1)
          have w5 := z3 (z1 rfl)
          refine callBy cb47 (ih.test p5 (by omega) (by omega) fun r6 at6 nv6 ns6 deep6 df6 lp6 tp6 code6 pos6 L6 p6 k6 m6 t6 c6 q6 => ?_)
          simp (maxSteps := 4000000) only [go_sem, reduceIte, reduceCtorEq, Nat.reduceAdd, Nat.reduceSub, Nat.reduceMul, Nat.reduceLeDiff, Nat.reduceLT, Nat.reduceEqDiff, Nat.reduceBEq]
          intro n hn hL
          refine callBy cb16 (c_put (ks := [r4, r1, r6]) ((p6.roots (List.perm_middle (l₁ := [r4, r1])).symm).grow (Grow.upd n)) (.inr ⟨some n, rfl⟩) (by omega) fun r7 nv7 ns7 L7 p7 k7 c7 => ?_)
          simp (maxSteps := 4000000) only [go_sem, reduceIte, reduceCtorEq, Nat.reduceAdd, Nat.reduceSub, Nat.reduceMul, Nat.reduceLeDiff, Nat.reduceLT, Nat.reduceEqDiff, Nat.reduceBEq]
          exact h1 _ _ _ _ _ _ _ _ _ _ _ p7 (k1.trans (k4.trans (k6.trans ((Grow.upd n).keep.trans k7)))) (by omega) (by omega) (by omega) (fun e => ⟨w1.1, by omega⟩)
  · exact h1 _ _ _ _ _ _ _ _ _ _ _ p1 k1 m1 t1 c1 q1

theorem e_round (ih : AllE ts N) : CB ts (N + 1) 12 67 := by
  intro p b L ρt at0 nv0 deep0 df0 lp0 tp0 code0 pos0 ns0 R S po p0 room hN hat h1
  have g0 := p0.pos
  have g1 := p0.lt
  have g2 := p0.tok.most
  refine acalls_of Try.func67 rfl (rd_ok hMix (κ := fun _ => false) δ0 _ rfl ?_)
  simp (maxSteps := 4000000) only [go_sem, reduceIte, reduceCtorEq, Nat.reduceAdd, Nat.reduceSub, Nat.reduceMul, Nat.reduceLeDiff, Nat.reduceLT, Nat.reduceEqDiff, Nat.reduceBEq, Try.ntmps67, Try.f67]
  refine callBy cb48 (c_enter fun v deep2 code2 pos2 y1 y2 y3 => ?_)
  cases v <;> simp (maxSteps := 4000000) only [go_sem, reduceIte, reduceCtorEq, Nat.reduceAdd, Nat.reduceSub, Nat.reduceMul, Nat.reduceLeDiff, Nat.reduceLT, Nat.reduceEqDiff, Nat.reduceBEq, p0.wrap1]
  · exact h1 _ _ _ _ _ _ _ _ _ _ _ (p0.fail (Int.le_refl _) g1 (y2 rfl) _) (Keep.refl _ _) (by omega) (by omega) (by omega) (fun e => absurd e (y2 rfl))
  · have e2 := y1 rfl
    have p3 := p0.step (at1 := at0 + 1) (code1 := code2) (by omega) hat y3
    refine callBy cb32 (c_is p3 fun v hv => ?_)
    cases v <;> simp (maxSteps := 4000000) only [go_sem, reduceIte, reduceCtorEq, Nat.reduceAdd, Nat.reduceSub, Nat.reduceMul, Nat.reduceLeDiff, Nat.reduceLT, Nat.reduceEqDiff, Nat.reduceBEq, p3.wrap1]
    · refine callBy cb47 (ih.test p3 (by omega) (by omega) fun r4 at4 nv4 ns4 deep4 df4 lp4 tp4 code4 pos4 L4 p4 k4 m4 t4 c4 q4 => ?_)
      simp (maxSteps := 4000000) only [go_sem, reduceIte, reduceCtorEq, Nat.reduceAdd, Nat.reduceSub, Nat.reduceMul, Nat.reduceLeDiff, Nat.reduceLT, Nat.reduceEqDiff, Nat.reduceBEq]
      refine callBy cb51 (ih.rest p4 (by omega) (by omega) fun lv5 l5 comma at5 nv5 ns5 deep5 df5 lp5 tp5 code5 pos5 L5 i5 s5 p5 k5 m5 t5 c5 d5 q5 => ?_)
      simp (maxSteps := 4000000) only [go_sem, reduceIte, reduceCtorEq, Nat.reduceAdd, Nat.reduceSub, Nat.reduceMul, Nat.reduceLeDiff, Nat.reduceLT, Nat.reduceEqDiff, Nat.reduceBEq]
      refine callBy cb35 (c_want p5 fun v at6 code6 pos6 z1 z2 z3 z4 z5 => ?_)
      simp (maxSteps := 4000000) only [go_sem, reduceIte, reduceCtorEq, Nat.reduceAdd, Nat.reduceSub, Nat.reduceMul, Nat.reduceLeDiff, Nat.reduceLT, Nat.reduceEqDiff, Nat.reduceBEq]
      have p6 := p5.step (code1 := code6) z4 z5 (fun e => (z3 e).1)
      have k6 := k4.trans k5
      cases comma <;> simp (maxSteps := 4000000) only [go_sem, reduceIte, reduceCtorEq, Nat.reduceAdd, Nat.reduceSub, Nat.reduceMul, Nat.reduceLeDiff, Nat.reduceLT, Nat.reduceEqDiff, Nat.reduceBEq]
      · have s5 := s5 rfl
        subst s5
        exact h1 _ _ _ _ _ _ _ _ _ _ _ p6 k6 (by omega) (by omega) (by omega) (fun e => ⟨y3 e2, by omega⟩)
      · have d5 := d5 rfl
        simp (maxSteps := 4000000) only [go_sem, reduceIte, reduceCtorEq, Nat.reduceAdd, Nat.reduceSub, Nat.reduceMul, Nat.reduceLeDiff, Nat.reduceLT, Nat.reduceEqDiff, Nat.reduceBEq, i5.loc]
        refine callBy cb16 (c_put (ks := l5) p6 i5 (by omega) fun r7 nv7 ns7 L7 p7 k7 c7 => ?_)
        simp (maxSteps := 4000000) only [go_sem, reduceIte, reduceCtorEq, Nat.reduceAdd, Nat.reduceSub, Nat.reduceMul, Nat.reduceLeDiff, Nat.reduceLT, Nat.reduceEqDiff, Nat.reduceBEq]
        exact h1 _ _ _ _ _ _ _ _ _ _ _ p7 (k6.trans k7) (by omega) (by omega) (by omega) (fun e => ⟨y3 e2, by omega⟩)
    · have hv := hv rfl
      have p4 := p3.step (at1 := at0 + 1 + 1) (code1 := code2) (by omega) hv id
      refine callBy cb16 (c_put (ks := []) p4 (.inl ⟨rfl, rfl⟩) (by omega) fun r7 nv7 ns7 L7 p7 k7 c7 => ?_)
      simp (maxSteps := 4000000) only [go_sem, reduceIte, reduceCtorEq, Nat.reduceAdd, Nat.reduceSub, Nat.reduceMul, Nat.reduceLeDiff, Nat.reduceLT, Nat.reduceEqDiff, Nat.reduceBEq]
      exact h1 _ _ _ _ _ _ _ _ _ _ _ p7 k7 (by omega) (by omega) (by omega) (fun e => ⟨y3 e2, by omega⟩)

end Go.Proofs.Ab5
end
/- The reference parser: primaries. -/
section
set_option maxRecDepth 10000
set_option maxHeartbeats 4000000
set_option linter.unusedSimpArgs false
set_option linter.unusedVariables false
namespace Go.Proofs.Ab5
open Go.Ab Go.Proofs
variable {ts : List Tok} {N : Nat}
theorem e_primary (ih : AllE ts N) : CE ts (N + 1) 14 60 := by
  intro p b L ρt at0 nv0 deep0 df0 lp0 tp0 code0 pos0 ns0 R S p0 room hN h1
  have g0 := p0.pos
  have g1 := p0.lt
  have g2 := p0.tok.most
  refine acalls_of Try.func60 rfl (rd_ok hMix (κ := fun _ => false) δ0 _ rfl ?_)
  simp (maxSteps := 4000000) only [go_sem, reduceIte, reduceCtorEq, Nat.reduceAdd, Nat.reduceSub, Nat.reduceMul, Nat.reduceLeDiff, Nat.reduceLT, Nat.reduceEqDiff, Nat.reduceBEq, Try.ntmps60, Try.f60]
  refine callBy cb63 (ih.atom p0 room (by omega) fun r1 at1 nv1 ns1 deep1 df1 lp1 tp1 code1 pos1 L1 p1 k1 m1 t1 c1 q1 => ?_)
  simp (maxSteps := 4000000) only [go_sem, reduceIte, reduceCtorEq, Nat.reduceAdd, Nat.reduceSub, Nat.reduceMul, Nat.reduceLeDiff, Nat.reduceLT, Nat.reduceEqDiff, Nat.reduceBEq]
  refine AWp.loop_st [true, false, false, true, false, false, false, false, false, false, false, false, false, false, false, false, false, false, false, false, false, false, false, false, false, false, false, false, false, false, false, false, false, false, false, false, false, false, false, false, false, false, false, false, false, false, false, false, false, false, false, false, false, false, false, false, false, false, false, false, false, false, false, false, false, false, false, false, false, false, false, false, false, false, false, false, false, false, false, false, false] [] (fun x : LS => ⟨[.ptr p 0, .any, .any, .int .i64 x.a, .any, .any, .any, .any, .any, .any, .any, .any, .any, .any, .any, .any, .any, .any, .any, .any, .any, .any, .any, .any, .any, .any, .any, .any, .any, .any, .any, .any, .any, .any, .any, .any, .any, .any, .any, .any, .any, .any, .any, .any, .any, .any, .any, .any, .any, .any, .any, .any, .any, .any, .any, .any, .any, .any, .any, .any, .any, .any, .any, .any, .any, .any, .any, .any, .any, .any, .any, .any, .any, .any, .any, .any, .any, .any, .any, .any, .any], []⟩) (fun x => ⟨upd b p (some (pcells ρt ts x.at' x.nv x.deep x.df x.lp x.tp x.code x.pos)), x.L⟩)
    (fun x => PI ts x.at' x.nv x.ns x.code x.L (x.a :: R) ∧ Keep L nv0 x.L x.nv ∧ at0 ≤ x.at' ∧ (x.ns.length : Int) + at0 ≤ ns0.length + x.at' ∧ (x.code = 0 → code0 = 0 ∧ at0 < x.at'))
    (fun x => 2 * (ts.length - x.at').toNat + (if x.code = 0 then 1 else 0)) ⟨r1, at1, nv1, ns1, deep1, df1, lp1, tp1, code1, pos1, L1, .nilSlice, [], false⟩ ?_ ?_ rfl ⟨p1, k1, m1, c1, q1⟩ ?_
  · simp (maxSteps := 4000000) only [go_sem, reduceIte, reduceCtorEq, Nat.reduceAdd, Nat.reduceSub, Nat.reduceMul, Nat.reduceLeDiff, Nat.reduceLT, Nat.reduceEqDiff, Nat.reduceBEq]
  · simp (maxSteps := 4000000) only [go_sem, reduceIte, reduceCtorEq, Nat.reduceAdd, Nat.reduceSub, Nat.reduceMul, Nat.reduceLeDiff, Nat.reduceLT, Nat.reduceEqDiff, Nat.reduceBEq]
  rintro ⟨a, at2, nv2, ns2, deep2, df2, lp2, tp2, code2, pos2, L2, _, _, _⟩ ⟨p2, k2, m2, c2, q2⟩
  dsimp only at p2 k2 m2 c2 q2 ⊢
  have g3 := p2.pos
  have g4 := p2.lt
  refine rd_ok hMix (κ := fun _ => false) δ0 _ rfl ?_
  simp (maxSteps := 4000000) only [go_sem, reduceIte, reduceCtorEq, Nat.reduceAdd, Nat.reduceSub, Nat.reduceMul, Nat.reduceLeDiff, Nat.reduceLT, Nat.reduceEqDiff, Nat.reduceBEq]
  refine callBy cb12 (c_bad (fun e2 => ?_) (fun e2 => ?_)) <;> simp (maxSteps := 4000000) only [go_sem, reduceIte, reduceCtorEq, Nat.reduceAdd, Nat.reduceSub, Nat.reduceMul, Nat.reduceLeDiff, Nat.reduceLT, Nat.reduceEqDiff, Nat.reduceBEq]
  · have w2 := q2 e2
    refine callBy cb13 (c_now p2 fun tok x1 x2 x3 => ?_)
    simp (maxSteps := 4000000) only [go_sem, reduceIte, reduceCtorEq, Nat.reduceAdd, Nat.reduceSub, Nat.reduceMul, Nat.reduceLeDiff, Nat.reduceLT, Nat.reduceEqDiff, Nat.reduceBEq]
    refine callBy cb32 (c_is p2 fun v hv => ?_)
    cases v <;> simp (maxSteps := 4000000) only [go_sem, reduceIte, reduceCtorEq, Nat.reduceAdd, Nat.reduceSub, Nat.reduceMul, Nat.reduceLeDiff, Nat.reduceLT, Nat.reduceEqDiff, Nat.reduceBEq, p2.wrap1]
    · refine callBy cb32 (c_is p2 fun v hv => ?_)
      cases v <;> simp (maxSteps := 4000000) only [go_sem, reduceIte, reduceCtorEq, Nat.reduceAdd, Nat.reduceSub, Nat.reduceMul, Nat.reduceLeDiff, Nat.reduceLT, Nat.reduceEqDiff, Nat.reduceBEq]
      · refine callBy cb32 (c_is p2 fun v hv => ?_)
        cases v <;> simp (maxSteps := 4000000) only [go_sem, reduceIte, reduceCtorEq, Nat.reduceAdd, Nat.reduceSub, Nat.reduceMul, Nat.reduceLeDiff, Nat.reduceLT, Nat.reduceEqDiff, Nat.reduceBEq]
        · exact h1 _ _ _ _ _ _ _ _ _ _ _ p2 k2 m2 g4 c2 q2
        · have hv := hv rfl
          refine callBy cb65 (ih.index p2 (by omega) (by omega) hv fun r4 at4 nv4 ns4 deep4 df4 lp4 tp4 code4 pos4 L4 p4 k4 m4 t4 c4 q4 => ?_)
          simp (maxSteps := 4000000) only [go_sem, reduceIte, reduceCtorEq, Nat.reduceAdd, Nat.reduceSub, Nat.reduceMul, Nat.reduceLeDiff, Nat.reduceLT, Nat.reduceEqDiff, Nat.reduceBEq]
          refine ⟨⟨r4, at4, nv4, ns4, deep4, df4, lp4, tp4, code4, pos4, L4, .nilSlice, [], false⟩, rfl, rfl, ⟨p4, k2.trans k4, ?_, ?_, ?_⟩, ?_⟩
          all_goals dsimp only
          · omega
          · omega
          · intro e; have := q4 e; omega
          · rw [if_pos e2]; split <;> omega
      · have hv := hv rfl
        refine callBy cb48 (c_enter fun v deep3 code3 pos3 y1 y2 y3 => ?_)
        cases v <;> simp (maxSteps := 4000000) only [go_sem, reduceIte, reduceCtorEq, Nat.reduceAdd, Nat.reduceSub, Nat.reduceMul, Nat.reduceLeDiff, Nat.reduceLT, Nat.reduceEqDiff, Nat.reduceBEq, p2.wrap1]
        · exact h1 _ _ _ _ _ _ _ _ _ _ _ (p2.fail (Int.le_refl _) g4 (y2 rfl) _) k2 (by omega) (by omega) (by omega) (fun e => absurd e (y2 rfl))
        · have p3 := p2.step (at1 := at2 + 1) (code1 := code3) (by omega) hv y3
          intro n0 hn0 hL0
          have p3 := p3.grow (Grow.upd n0)
          have k3 := k2.trans (Grow.upd n0).keep
          have a3 : Acc (upd L2 n0 true) nv2 (.list (some n0) 1 (icells [a])) [a] := Acc.new p2.nodes.own hL0
          have f3 : Fr L nv0 (.list (some n0) 1 (icells [a])) := Fr.new k2 hL0
          refine callBy cb64 (ih.arguments (p3.roots (List.Perm.refl (a :: R))) (by omega) (by omega) fun lv4 l4 at4 nv4 ns4 deep4 df4 lp4 tp4 code4 pos4 L4 i4 u4 p4 k4 m4 t4 c4 q4 => ?_)
          simp (maxSteps := 4000000) only [go_sem, reduceIte, reduceCtorEq, Nat.reduceAdd, Nat.reduceSub, Nat.reduceMul, Nat.reduceLeDiff, Nat.reduceLT, Nat.reduceEqDiff, Nat.reduceBEq, i4.fits, i4.news]
          intro n1 hn1 hL1
          have a4 := a3.keep k4
          refine append_acc (ks := [a]) a4 p4.nodes.own hL1 l4 (by simp; omega) rfl (by decide) fun v5 L5 a5 k5 => ?_
          simp (maxSteps := 4000000) only [go_sem, reduceIte, reduceCtorEq, Nat.reduceAdd, Nat.reduceSub, Nat.reduceMul, Nat.reduceLeDiff, Nat.reduceLT, Nat.reduceEqDiff, Nat.reduceBEq, a5.ints.loc]
          have p5 := (p4.acc a4.ne k5).roots (R' := ([a] ++ l4) ++ R) (by simp)
          have k6 := (k3.trans k4).acc f3 k5
          refine callBy cb35 (c_want p5 fun v at6 code6 pos6 z1 z2 z3 z4 z5 => ?_)
          simp (maxSteps := 4000000) only [go_sem, reduceIte, reduceCtorEq, Nat.reduceAdd, Nat.reduceSub, Nat.reduceMul, Nat.reduceLeDiff, Nat.reduceLT, Nat.reduceEqDiff, Nat.reduceBEq, a5.ints.loc]
          have p6 := p5.step (code1 := code6) z4 z5 (fun e => (z3 e).1)
          refine callBy cb16 (c_put (ks := [a] ++ l4) p6 a5.ints (by omega) fun r7 nv7 ns7 L7 p7 k7 c7 => ?_)
          simp (maxSteps := 4000000) only [go_sem, reduceIte, reduceCtorEq, Nat.reduceAdd, Nat.reduceSub, Nat.reduceMul, Nat.reduceLeDiff, Nat.reduceLT, Nat.reduceEqDiff, Nat.reduceBEq]
          refine ⟨⟨r7, at6, nv7, ns7, _, df4, lp4, tp4, code6, pos6, L7, .nilSlice, [], false⟩, rfl, rfl, ⟨p7, k6.trans k7, ?_, ?_, ?_⟩, ?_⟩
          all_goals dsimp only
          · omega
          · omega
          · intro e; omega
          · rw [if_pos e2]; split <;> omega
    · have hv := hv rfl
      have p3 := p2.step (at1 := at2 + 1) (code1 := code2) (by omega) hv id
      refine callBy cb42 (c_kind p3 (by decide) fun tok4 v at4 code4 pos4 y0 y1 y2 y3 y4 y5 => ?_)
      simp (maxSteps := 4000000) only [go_sem, reduceIte, reduceCtorEq, Nat.reduceAdd, Nat.reduceSub, Nat.reduceMul, Nat.reduceLeDiff, Nat.reduceLT, Nat.reduceEqDiff, Nat.reduceBEq]
      have p4 := p3.step (code1 := code4) y4 y5 (fun e => (y3 e).1)
      intro n hn hL
      refine callBy cb16 (c_put (ks := [a]) (p4.grow (Grow.upd n)) (.inr ⟨some n, rfl⟩) (by omega) fun r5 nv5 ns5 L5 p5 k5 c5 => ?_)
      simp (maxSteps := 4000000) only [go_sem, reduceIte, reduceCtorEq, Nat.reduceAdd, Nat.reduceSub, Nat.reduceMul, Nat.reduceLeDiff, Nat.reduceLT, Nat.reduceEqDiff, Nat.reduceBEq]
      refine ⟨⟨r5, at4, nv5, ns5, deep2, df2, lp2, tp2, code4, pos4, L5, .nilSlice, [], false⟩, rfl, rfl, ⟨p5, k2.trans ((Grow.upd n).keep.trans k5), ?_, ?_, ?_⟩, ?_⟩
      all_goals dsimp only
      · omega
      · omega
      · intro e; omega
      · rw [if_pos e2]; split <;> omega
  · exact h1 _ _ _ _ _ _ _ _ _ _ _ (p2.bad e2 _) k2 m2 g4 c2 (fun e => absurd e e2)

end Go.Proofs.Ab5
end
