/-
  The reference parser: curly brackets.
-/
import Derived.Test.YtdgfmdjlhkjbaaaDb
set_option linter.all false
section
set_option maxRecDepth 10000
set_option maxHeartbeats 4000000
set_option linter.unusedSimpArgs false
set_option linter.unusedVariables false
namespace Go.Proofs.Ab5
open Go.Ab Go.Proofs
variable {ts : List Tok} {N : Nat}
theorem e_curly (ih : AllE ts N) : CB ts (N + 1) 12 69 := by
  intro p b L ρt at0 nv0 deep0 df0 lp0 tp0 code0 pos0 ns0 R S po p0 room hN hat h1
  have g0 := p0.pos
  have g1 := p0.lt
  have g2 := p0.tok.most
  refine acalls_of Try.func69 rfl (rd_ok hMix (κ := fun _ => false) δ0 _ rfl ?_)
  simp (maxSteps := 4000000) only [go_sem, reduceIte, reduceCtorEq, Nat.reduceAdd, Nat.reduceSub, Nat.reduceMul, Nat.reduceLeDiff, Nat.reduceLT, Nat.reduceEqDiff, Nat.reduceBEq, Try.ntmps69, Try.f69]
  refine callBy cb48 (c_enter fun v deep2 code2 pos2 y1 y2 y3 => ?_)
  cases v <;> simp (maxSteps := 4000000) only [go_sem, reduceIte, reduceCtorEq, Nat.reduceAdd, Nat.reduceSub, Nat.reduceMul, Nat.reduceLeDiff, Nat.reduceLT, Nat.reduceEqDiff, Nat.reduceBEq, p0.wrap1]
  · exact h1 _ _ _ _ _ _ _ _ _ _ _ (p0.fail (Int.le_refl _) g1 (y2 rfl) _) (Keep.refl _ _) (by omega) (by omega) (by omega) (fun e => absurd e (y2 rfl))
  · have e2 := y3 (y1 rfl)
    have p3 := p0.step (at1 := at0 + 1) (code1 := code2) (by omega) hat y3
    refine AWp.loop_st [true, true, false, false, false, true, false, false, false, false, false, false, false, false, false, false, false, false, false, false, false, false, false, false, false, false, false, false, false, false, false, false, false, false, false, false, false, false, false, false, false, false, false, false, false, false, false, false, false, false, false, false, false, false, false, false, false, false, false, false, false, false, false, false, false, false, false, false] [] (fun x : LS => ⟨[.ptr p 0, .int .i64 po, .any, .any, .any, x.lv, .any, .any, .any, .any, .any, .any, .any, .any, .any, .any, .any, .any, .any, .any, .any, .any, .any, .any, .any, .any, .any, .any, .any, .any, .any, .any, .any, .any, .any, .any, .any, .any, .any, .any, .any, .any, .any, .any, .any, .any, .any, .any, .any, .any, .any, .any, .any, .any, .any, .any, .any, .any, .any, .any, .any, .any, .any, .any, .any, .any, .any, .any], []⟩) (fun x => ⟨upd b p (some (pcells ρt ts x.at' x.nv x.deep x.df x.lp x.tp x.code x.pos)), x.L⟩)
      (fun x => PI ts x.at' x.nv x.ns x.code x.L (x.l ++ R) ∧ Acc x.L x.nv x.lv x.l ∧ Fr L nv0 x.lv ∧ Keep L nv0 x.L x.nv ∧ at0 + 1 ≤ x.at' ∧ (x.ns.length : Int) + at0 + 1 ≤ ns0.length + x.at' ∧ (x.code = 0 → code0 = 0) ∧ (x.l.length : Int) ≤ 2 * x.at')
      (fun x => (ts.length - x.at').toNat) ⟨0, at0 + 1, nv0, ns0, deep2, df0, lp0, tp0, code2, pos2, L, .nilSlice, [], false⟩ ?_ ?_ ?_ ⟨p3, Acc.nil _ _, Fr.nil _ _, Keep.refl _ _, by dsimp only; omega, by dsimp only; omega, y3, by dsimp only [List.length_nil]; omega⟩ ?_
    · simp (maxSteps := 4000000) only [go_sem, reduceIte, reduceCtorEq, Nat.reduceAdd, Nat.reduceSub, Nat.reduceMul, Nat.reduceLeDiff, Nat.reduceLT, Nat.reduceEqDiff, Nat.reduceBEq]
    · simp (maxSteps := 4000000) only [go_sem, reduceIte, reduceCtorEq, Nat.reduceAdd, Nat.reduceSub, Nat.reduceMul, Nat.reduceLeDiff, Nat.reduceLT, Nat.reduceEqDiff, Nat.reduceBEq]
    · simp (maxSteps := 4000000) only [go_sem, reduceIte, reduceCtorEq, Nat.reduceAdd, Nat.reduceSub, Nat.reduceMul, Nat.reduceLeDiff, Nat.reduceLT, Nat.reduceEqDiff, Nat.reduceBEq]
    rintro ⟨a, at2, nv2, ns2, deep2, df2, lp2, tp2, code2, pos2, L2, lv2, l2, f2⟩ ⟨p2, a2, f2', k2, m2, c2, q2, l2'⟩
    dsimp only at p2 a2 f2' k2 m2 c2 q2 l2' ⊢
    have g3 := p2.pos
    have g4 := p2.lt
    refine rd_ok hMix (κ := fun _ => false) δ0 _ rfl ?_
    simp (maxSteps := 4000000) only [go_sem, reduceIte, reduceCtorEq, Nat.reduceAdd, Nat.reduceSub, Nat.reduceMul, Nat.reduceLeDiff, Nat.reduceLT, Nat.reduceEqDiff, Nat.reduceBEq]
    refine callBy cb12 (c_bad (fun e2 => ?_) (fun e2 => ?_)) <;> simp (maxSteps := 4000000) only [go_sem, reduceIte, reduceCtorEq, Nat.reduceAdd, Nat.reduceSub, Nat.reduceMul, Nat.reduceLeDiff, Nat.reduceLT, Nat.reduceEqDiff, Nat.reduceBEq]
    · refine callBy cb32 (c_is p2 fun v hv => ?_)
      cases v <;> simp (maxSteps := 4000000) only [go_sem, reduceIte, reduceCtorEq, Nat.reduceAdd, Nat.reduceSub, Nat.reduceMul, Nat.reduceLeDiff, Nat.reduceLT, Nat.reduceEqDiff, Nat.reduceBEq]
      · refine callBy cb47 (ih.test p2 (by omega) (by omega) fun r4 at4 nv4 ns4 deep4 df4 lp4 tp4 code4 pos4 L4 p4 k4 m4 t4 c4 q4 => ?_)
        simp (maxSteps := 4000000) only [go_sem, reduceIte, reduceCtorEq, Nat.reduceAdd, Nat.reduceSub, Nat.reduceMul, Nat.reduceLeDiff, Nat.reduceLT, Nat.reduceEqDiff, Nat.reduceBEq]
        refine callBy cb35 (c_want p4 fun v at5 code5 pos5 y1 y2 y3 y4 y5 => ?_)
        simp (maxSteps := 4000000) only [go_sem, reduceIte, reduceCtorEq, Nat.reduceAdd, Nat.reduceSub, Nat.reduceMul, Nat.reduceLeDiff, Nat.reduceLT, Nat.reduceEqDiff, Nat.reduceBEq]
        have p5 := p4.step (code1 := code5) y4 y5 (fun e => (y3 e).1)
        clear y1 y2
        refine callBy cb47 (ih.test p5 (by omega) (by omega) fun r6 at6 nv6 ns6 deep6 df6 lp6 tp6 code6 pos6 L6 p6 k6 m6 t6 c6 q6 => ?_)
        simp (maxSteps := 4000000) only [go_sem, reduceIte, reduceCtorEq, Nat.reduceAdd, Nat.reduceSub, Nat.reduceMul, Nat.reduceLeDiff, Nat.reduceLT, Nat.reduceEqDiff, Nat.reduceBEq]
        intro n hn hL n2 hn2 hL2
        have p7 := p6.grow (Grow.upd n)
        have k7 := k2.trans ((k4.trans k6).trans (Grow.upd n).keep)
        have a7 := (a2.keep (k4.trans k6)).grow (Grow.upd n)
        refine append_acc (ks := l2) a7 p7.nodes.own hL2 [r4, r6] (by simp; omega) rfl (by decide) fun v8 L8 a8 k8 => ?_
        simp (maxSteps := 4000000) only [go_sem, reduceIte, reduceCtorEq, Nat.reduceAdd, Nat.reduceSub, Nat.reduceMul, Nat.reduceLeDiff, Nat.reduceLT, Nat.reduceEqDiff, Nat.reduceBEq, a8.ints.loc]
        have p8 := (p7.acc a7.ne k8).roots (R' := (l2 ++ [r4, r6]) ++ R) ((List.Perm.swap _ _ _).trans (by
          rw [List.append_assoc]
          exact ((List.perm_append_comm_assoc [r4, r6] l2 R)))) 
        have f8 := Fr.acc k7 f2' k8
        have k9 := k7.acc f2' k8
        refine callBy cb12 (c_bad (fun e6 => ?_) (fun e6 => ?_)) <;> simp (maxSteps := 4000000) only [go_sem, reduceIte, reduceCtorEq, Nat.reduceAdd, Nat.reduceSub, Nat.reduceMul, Nat.reduceLeDiff, Nat.reduceLT, Nat.reduceEqDiff, Nat.reduceBEq, a8.ints.loc]
        · refine callBy cb32 (c_is p8 fun v hv => ?_)
          cases v <;> simp (maxSteps := 4000000) only [go_sem, reduceIte, reduceCtorEq, Nat.reduceAdd, Nat.reduceSub, Nat.reduceMul, Nat.reduceLeDiff, Nat.reduceLT, Nat.reduceEqDiff, Nat.reduceBEq, a8.ints.loc, p8.wrap1]
          ·
            refine callBy cb35 (c_want p8 fun v at9 code9 pos9 z1 z2 z3 z4 z5 => ?_)
            simp (maxSteps := 4000000) only [go_sem, reduceIte, reduceCtorEq, Nat.reduceAdd, Nat.reduceSub, Nat.reduceMul, Nat.reduceLeDiff, Nat.reduceLT, Nat.reduceEqDiff, Nat.reduceBEq, a8.ints.loc]
            have p9 := p8.step (code1 := code9) z4 z5 (fun e => (z3 e).1)
            refine callBy cb16 (c_put (ks := (l2 ++ [r4, r6])) p9 a8.ints (by omega) fun r20 nv20 ns20 L20 p20 k20 c20 => ?_)
            simp (maxSteps := 4000000) only [go_sem, reduceIte, reduceCtorEq, Nat.reduceAdd, Nat.reduceSub, Nat.reduceMul, Nat.reduceLeDiff, Nat.reduceLT, Nat.reduceEqDiff, Nat.reduceBEq]
            exact h1 _ _ _ _ _ _ _ _ _ _ _ p20 (k9.trans k20) (by omega) (by omega) (by omega) (fun e => ⟨q2 (by omega), by omega⟩)
          · have hv := hv rfl
            have p10 := p8.step (at1 := at6 + 1) (code1 := code6) (by omega) hv id
            refine ⟨⟨0, at6 + 1, nv6, ns6, deep6, df6, lp6, tp6, code6, pos6, L8, v8, l2 ++ [r4, r6], false⟩, rfl, rfl, ⟨p10, a8, f8, k9, ?_, ?_, ?_, ?_⟩, ?_⟩
            all_goals dsimp only
            · omega
            · omega
            · intro e; exact q2 e2
            · simp; omega
            · omega
        ·
          refine callBy cb35 (c_want p8 fun v at9 code9 pos9 z1 z2 z3 z4 z5 => ?_)
          simp (maxSteps := 4000000) only [go_sem, reduceIte, reduceCtorEq, Nat.reduceAdd, Nat.reduceSub, Nat.reduceMul, Nat.reduceLeDiff, Nat.reduceLT, Nat.reduceEqDiff, Nat.reduceBEq, a8.ints.loc]
          have p9 := p8.step (code1 := code9) z4 z5 (fun e => (z3 e).1)
          refine callBy cb16 (c_put (ks := (l2 ++ [r4, r6])) p9 a8.ints (by omega) fun r20 nv20 ns20 L20 p20 k20 c20 => ?_)
          simp (maxSteps := 4000000) only [go_sem, reduceIte, reduceCtorEq, Nat.reduceAdd, Nat.reduceSub, Nat.reduceMul, Nat.reduceLeDiff, Nat.reduceLT, Nat.reduceEqDiff, Nat.reduceBEq]
          exact h1 _ _ _ _ _ _ _ _ _ _ _ p20 (k9.trans k20) (by omega) (by omega) (by omega) (fun e => ⟨q2 (by omega), by omega⟩)
      ·
        refine callBy cb35 (c_want p2 fun v at9 code9 pos9 z1 z2 z3 z4 z5 => ?_)
        simp (maxSteps := 4000000) only [go_sem, reduceIte, reduceCtorEq, Nat.reduceAdd, Nat.reduceSub, Nat.reduceMul, Nat.reduceLeDiff, Nat.reduceLT, Nat.reduceEqDiff, Nat.reduceBEq, a2.ints.loc]
        have p9 := p2.step (code1 := code9) z4 z5 (fun e => (z3 e).1)
        refine callBy cb16 (c_put (ks := l2) p9 a2.ints (by omega) fun r20 nv20 ns20 L20 p20 k20 c20 => ?_)
        simp (maxSteps := 4000000) only [go_sem, reduceIte, reduceCtorEq, Nat.reduceAdd, Nat.reduceSub, Nat.reduceMul, Nat.reduceLeDiff, Nat.reduceLT, Nat.reduceEqDiff, Nat.reduceBEq]
        exact h1 _ _ _ _ _ _ _ _ _ _ _ p20 (k2.trans k20) (by omega) (by omega) (by omega) (fun e => ⟨q2 (by omega), by omega⟩)
    ·
      refine callBy cb35 (c_want p2 fun v at9 code9 pos9 z1 z2 z3 z4 z5 => ?_)
      simp (maxSteps := 4000000) only [go_sem, reduceIte, reduceCtorEq, Nat.reduceAdd, Nat.reduceSub, Nat.reduceMul, Nat.reduceLeDiff, Nat.reduceLT, Nat.reduceEqDiff, Nat.reduceBEq, a2.ints.loc]
      have p9 := p2.step (code1 := code9) z4 z5 (fun e => (z3 e).1)
      refine callBy cb16 (c_put (ks := l2) p9 a2.ints (by omega) fun r20 nv20 ns20 L20 p20 k20 c20 => ?_)
      simp (maxSteps := 4000000) only [go_sem, reduceIte, reduceCtorEq, Nat.reduceAdd, Nat.reduceSub, Nat.reduceMul, Nat.reduceLeDiff, Nat.reduceLT, Nat.reduceEqDiff, Nat.reduceBEq]
      exact h1 _ _ _ _ _ _ _ _ _ _ _ p20 (k2.trans k20) (by omega) (by omega) (by omega) (fun e => ⟨q2 (by omega), by omega⟩)

end Go.Proofs.Ab5
end
/- The reference parser: targets. -/
section
set_option maxRecDepth 10000
set_option maxHeartbeats 4000000
set_option linter.unusedSimpArgs false
set_option linter.unusedVariables false
namespace Go.Proofs.Ab5
open Go.Ab Go.Proofs
variable {ts : List Tok} {N : Nat}
theorem e_several (ih : AllE ts N) : CV ts (N + 1) 17 49 := by
  intro p b L ρt at0 nv0 deep0 df0 lp0 tp0 code0 pos0 ns0 R S p0 room hN h1
  have g0 := p0.pos
  have g1 := p0.lt
  have g2 := p0.tok.most
  refine acalls_of Try.func49 rfl (rd_ok hMix (κ := fun _ => false) δ0 _ rfl ?_)
  simp (maxSteps := 4000000) only [go_sem, reduceIte, reduceCtorEq, Nat.reduceAdd, Nat.reduceSub, Nat.reduceMul, Nat.reduceLeDiff, Nat.reduceLT, Nat.reduceEqDiff, Nat.reduceBEq, Try.ntmps49, Try.f49]
  refine callBy cb57 (ih.target p0 room (by omega) fun r1 at1 nv1 ns1 deep1 df1 lp1 tp1 code1 pos1 L1 p1 k1 m1 t1 c1 q1 => ?_)
  simp (maxSteps := 4000000) only [go_sem, reduceIte, reduceCtorEq, Nat.reduceAdd, Nat.reduceSub, Nat.reduceMul, Nat.reduceLeDiff, Nat.reduceLT, Nat.reduceEqDiff, Nat.reduceBEq]
  intro n0 hn0 hL0
  refine AWp.loop_st [true, false, false, false, true, true, false, false, false, false, false, false, false, false, false, false, false, false, false, false, false, false, false, false, false, false, false, false, false, false, false, false, false, false, false, false, false, false, false, false] [] (fun x : LS => ⟨[.ptr p 0, .any, .any, .any, x.lv, .bool x.f, .any, .any, .any, .any, .any, .any, .any, .any, .any, .any, .any, .any, .any, .any, .any, .any, .any, .any, .any, .any, .any, .any, .any, .any, .any, .any, .any, .any, .any, .any, .any, .any, .any, .any], []⟩) (fun x => ⟨upd b p (some (pcells ρt ts x.at' x.nv x.deep x.df x.lp x.tp x.code x.pos)), x.L⟩)
    (fun x => PI ts x.at' x.nv x.ns x.code x.L ((r1 :: x.l) ++ R) ∧ Acc x.L x.nv x.lv (r1 :: x.l) ∧ Fr L nv0 x.lv ∧ Keep L nv0 x.L x.nv ∧ at0 ≤ x.at' ∧ (x.ns.length : Int) + at0 ≤ ns0.length + x.at' ∧ (x.f = true → (x.ns.length : Int) + at0 + 1 ≤ ns0.length + x.at') ∧ (x.code = 0 → code0 = 0 ∧ at0 < x.at') ∧ (x.f = false → x.l = []) ∧ (x.l.length : Int) + at0 ≤ x.at')
    (fun x => (ts.length - x.at').toNat) ⟨0, at1, nv1, ns1, deep1, df1, lp1, tp1, code1, pos1, upd L1 n0 true, .list (some n0) 1 (icells [r1]), [], false⟩ ?_ ?_ rfl ⟨p1.grow (Grow.upd n0), Acc.new p1.nodes.own hL0, Fr.new k1 hL0, k1.trans (Grow.upd n0).keep, by dsimp only; omega, by dsimp only; omega, by simp, q1, by simp, by simp; omega⟩ ?_
  · simp (maxSteps := 4000000) only [go_sem, reduceIte, reduceCtorEq, Nat.reduceAdd, Nat.reduceSub, Nat.reduceMul, Nat.reduceLeDiff, Nat.reduceLT, Nat.reduceEqDiff, Nat.reduceBEq]
  · simp (maxSteps := 4000000) only [go_sem, reduceIte, reduceCtorEq, Nat.reduceAdd, Nat.reduceSub, Nat.reduceMul, Nat.reduceLeDiff, Nat.reduceLT, Nat.reduceEqDiff, Nat.reduceBEq, icells]
  rintro ⟨a, at2, nv2, ns2, deep2, df2, lp2, tp2, code2, pos2, L2, lv2, l2, f2⟩ ⟨p2, a2, f2', k2, m2, c2, d2, q2, s2, l2'⟩
  dsimp only at p2 a2 f2' k2 m2 c2 d2 q2 s2 l2' ⊢
  have g3 := p2.pos
  have g4 := p2.lt
  refine rd_ok hMix (κ := fun _ => false) δ0 _ rfl ?_
  simp (maxSteps := 4000000) only [go_sem, reduceIte, reduceCtorEq, Nat.reduceAdd, Nat.reduceSub, Nat.reduceMul, Nat.reduceLeDiff, Nat.reduceLT, Nat.reduceEqDiff, Nat.reduceBEq]
  refine callBy cb12 (c_bad (fun e2 => ?_) (fun e2 => ?_)) <;> simp (maxSteps := 4000000) only [go_sem, reduceIte, reduceCtorEq, Nat.reduceAdd, Nat.reduceSub, Nat.reduceMul, Nat.reduceLeDiff, Nat.reduceLT, Nat.reduceEqDiff, Nat.reduceBEq, a2.ints.one, a2.ints.loc]
  · refine callBy cb32 (c_is p2 fun v hv => ?_)
    cases v <;> simp (maxSteps := 4000000) only [go_sem, reduceIte, reduceCtorEq, Nat.reduceAdd, Nat.reduceSub, Nat.reduceMul, Nat.reduceLeDiff, Nat.reduceLT, Nat.reduceEqDiff, Nat.reduceBEq, a2.ints.one, a2.ints.loc]
    · exact h1 lv2 r1 l2 f2 _ _ _ _ _ _ _ _ _ _ a2.ints s2 p2 k2 m2 g4 c2 d2 q2
    · have hv := hv rfl
      simp (maxSteps := 4000000) only [go_sem, reduceIte, reduceCtorEq, Nat.reduceAdd, Nat.reduceSub, Nat.reduceMul, Nat.reduceLeDiff, Nat.reduceLT, Nat.reduceEqDiff, Nat.reduceBEq, p2.wrap1]
      have p3 := p2.step (at1 := at2 + 1) (code1 := code2) (by omega) hv id
      refine callBy cb13 (c_now p3 fun tok x1 x2 x3 => ?_)
      simp (maxSteps := 4000000) only [go_sem, reduceIte, reduceCtorEq, Nat.reduceAdd, Nat.reduceSub, Nat.reduceMul, Nat.reduceLeDiff, Nat.reduceLT, Nat.reduceEqDiff, Nat.reduceBEq]
      refine ⟨fun hk => ?_, fun hk => ?_⟩
      · refine callBy cb32 (c_is p3 fun v hv' => ?_)
        cases v <;> simp (maxSteps := 4000000) only [go_sem, reduceIte, reduceCtorEq, Nat.reduceAdd, Nat.reduceSub, Nat.reduceMul, Nat.reduceLeDiff, Nat.reduceLT, Nat.reduceEqDiff, Nat.reduceBEq, a2.ints.one, a2.ints.loc]
        · exact h1 lv2 r1 l2 true _ _ _ _ _ _ _ _ _ _ a2.ints (by simp) p3 k2 (by omega) hv (by omega) (fun _ => by omega) (fun e => by have := q2 e; omega)
        ·
          refine callBy cb57 (ih.target p3 (by omega) (by omega) fun r4 at4 nv4 ns4 deep4 df4 lp4 tp4 code4 pos4 L4 p4 k4 m4 t4 c4 q4 => ?_)
          simp (maxSteps := 4000000) only [go_sem, reduceIte, reduceCtorEq, Nat.reduceAdd, Nat.reduceSub, Nat.reduceMul, Nat.reduceLeDiff, Nat.reduceLT, Nat.reduceEqDiff, Nat.reduceBEq]
          intro n hn hL n2 hn2 hL2
          have p5 := p4.grow (Grow.upd n)
          have k5 := k2.trans (k4.trans (Grow.upd n).keep)
          have a5 := (a2.keep k4).grow (Grow.upd n)
          refine append_acc (ks := r1 :: l2) a5 p5.nodes.own hL2 [r4] (by simp; omega) rfl (by decide) fun v6 L6 a6 k6 => ?_
          simp (maxSteps := 4000000) only [go_sem, reduceIte, reduceCtorEq, Nat.reduceAdd, Nat.reduceSub, Nat.reduceMul, Nat.reduceLeDiff, Nat.reduceLT, Nat.reduceEqDiff, Nat.reduceBEq, a2.ints.loc, a6.ints.loc]
          refine ⟨⟨0, at4, nv4, ns4, deep4, df4, lp4, tp4, code4, pos4, L6, v6, l2 ++ [r4], true⟩, rfl, rfl, ⟨(p5.acc a5.ne k6).roots (by simpa using (List.perm_middle (l₁ := r1 :: l2) (a := r4) (l₂ := R)).symm), a6, Fr.acc k5 f2' k6, k5.acc f2' k6, ?_, ?_, ?_, ?_, ?_, ?_⟩, ?_⟩
          all_goals dsimp only
          · omega
          · omega
          · intro _; omega
          · intro e; have := q2 (q4 e).1; omega
          · simp
          · simp; omega
          · omega
      ·
        refine callBy cb57 (ih.target p3 (by omega) (by omega) fun r4 at4 nv4 ns4 deep4 df4 lp4 tp4 code4 pos4 L4 p4 k4 m4 t4 c4 q4 => ?_)
        simp (maxSteps := 4000000) only [go_sem, reduceIte, reduceCtorEq, Nat.reduceAdd, Nat.reduceSub, Nat.reduceMul, Nat.reduceLeDiff, Nat.reduceLT, Nat.reduceEqDiff, Nat.reduceBEq]
        intro n hn hL n2 hn2 hL2
        have p5 := p4.grow (Grow.upd n)
        have k5 := k2.trans (k4.trans (Grow.upd n).keep)
        have a5 := (a2.keep k4).grow (Grow.upd n)
        refine append_acc (ks := r1 :: l2) a5 p5.nodes.own hL2 [r4] (by simp; omega) rfl (by decide) fun v6 L6 a6 k6 => ?_
        simp (maxSteps := 4000000) only [go_sem, reduceIte, reduceCtorEq, Nat.reduceAdd, Nat.reduceSub, Nat.reduceMul, Nat.reduceLeDiff, Nat.reduceLT, Nat.reduceEqDiff, Nat.reduceBEq, a2.ints.loc, a6.ints.loc]
        refine ⟨⟨0, at4, nv4, ns4, deep4, df4, lp4, tp4, code4, pos4, L6, v6, l2 ++ [r4], true⟩, rfl, rfl, ⟨(p5.acc a5.ne k6).roots (by simpa using (List.perm_middle (l₁ := r1 :: l2) (a := r4) (l₂ := R)).symm), a6, Fr.acc k5 f2' k6, k5.acc f2' k6, ?_, ?_, ?_, ?_, ?_, ?_⟩, ?_⟩
        all_goals dsimp only
        · omega
        · omega
        · intro _; omega
        · intro e; have := q2 (q4 e).1; omega
        · simp
        · simp; omega
        · omega
  · exact h1 lv2 r1 l2 f2 _ _ _ _ _ _ _ _ _ _ a2.ints s2 p2 k2 m2 g4 c2 d2 q2

theorem e_target (ih : AllE ts N) : CE ts (N + 1) 16 57 := by
  intro p b L ρt at0 nv0 deep0 df0 lp0 tp0 code0 pos0 ns0 R S p0 room hN h1
  have g0 := p0.pos
  have g1 := p0.lt
  have g2 := p0.tok.most
  refine acalls_of Try.func57 rfl (rd_ok hMix (κ := fun _ => false) δ0 _ rfl ?_)
  simp (maxSteps := 4000000) only [go_sem, reduceIte, reduceCtorEq, Nat.reduceAdd, Nat.reduceSub, Nat.reduceMul, Nat.reduceLeDiff, Nat.reduceLT, Nat.reduceEqDiff, Nat.reduceBEq, Try.ntmps57, Try.f57]
  refine callBy cb12 (c_bad (fun e0 => ?_) (fun e0 => ?_)) <;> simp (maxSteps := 4000000) only [go_sem, reduceIte, reduceCtorEq, Nat.reduceAdd, Nat.reduceSub, Nat.reduceMul, Nat.reduceLeDiff, Nat.reduceLT, Nat.reduceEqDiff, Nat.reduceBEq]
  · refine callBy cb13 (c_now p0 fun tok x1 x2 x3 => ?_)
    simp (maxSteps := 4000000) only [go_sem, reduceIte, reduceCtorEq, Nat.reduceAdd, Nat.reduceSub, Nat.reduceMul, Nat.reduceLeDiff, Nat.reduceLT, Nat.reduceEqDiff, Nat.reduceBEq]
    refine callBy cb32 (c_is p0 fun v hv => ?_)
    cases v <;> simp (maxSteps := 4000000) only [go_sem, reduceIte, reduceCtorEq, Nat.reduceAdd, Nat.reduceSub, Nat.reduceMul, Nat.reduceLeDiff, Nat.reduceLT, Nat.reduceEqDiff, Nat.reduceBEq]
    · refine callBy cb13 (c_now p0 fun tok2 x1 x2 x3 => ?_)
      simp (maxSteps := 4000000) only [go_sem, reduceIte, reduceCtorEq, Nat.reduceAdd, Nat.reduceSub, Nat.reduceMul, Nat.reduceLeDiff, Nat.reduceLT, Nat.reduceEqDiff, Nat.reduceBEq]
      refine ⟨fun hk => ?_, fun hk => ?_⟩
      · refine callBy cb37 (c_wrong p0 fun code1 pos1 hc => ?_)
        simp (maxSteps := 4000000) only [go_sem, reduceIte, reduceCtorEq, Nat.reduceAdd, Nat.reduceSub, Nat.reduceMul, Nat.reduceLeDiff, Nat.reduceLT, Nat.reduceEqDiff, Nat.reduceBEq]
        exact h1 _ _ _ _ _ _ _ _ _ _ _ (p0.fail (Int.le_refl _) g1 hc _) (Keep.refl _ _) (by omega) (by omega) (by omega) (fun e => absurd e hc)
      · refine callBy cb60 (ih.primary p0 room (by omega) fun r6 at6 nv6 ns6 deep6 df6 lp6 tp6 code6 pos6 L6 p6 k6 m6 t6 c6 q6 => ?_)
        simp (maxSteps := 4000000) only [go_sem, reduceIte, reduceCtorEq, Nat.reduceAdd, Nat.reduceSub, Nat.reduceMul, Nat.reduceLeDiff, Nat.reduceLT, Nat.reduceEqDiff, Nat.reduceBEq]
        refine callBy cb12 (c_bad (fun e6 => ?_) (fun e6 => ?_)) <;> simp (maxSteps := 4000000) only [go_sem, reduceIte, reduceCtorEq, Nat.reduceAdd, Nat.reduceSub, Nat.reduceMul, Nat.reduceLeDiff, Nat.reduceLT, Nat.reduceEqDiff, Nat.reduceBEq]
        · refine callBy cb54 (c_fits p6 e6 (by omega) (p6.fr e6 |>.range (by simp)).2 fun v => ?_)
          cases v <;> simp (maxSteps := 4000000) only [go_sem, reduceIte, reduceCtorEq, Nat.reduceAdd, Nat.reduceSub, Nat.reduceMul, Nat.reduceLeDiff, Nat.reduceLT, Nat.reduceEqDiff, Nat.reduceBEq]
          · refine callBy cb50 (c_fail (by decide) fun code7 pos7 hc => ?_)
            simp (maxSteps := 4000000) only [go_sem, reduceIte, reduceCtorEq, Nat.reduceAdd, Nat.reduceSub, Nat.reduceMul, Nat.reduceLeDiff, Nat.reduceLT, Nat.reduceEqDiff, Nat.reduceBEq]
            exact h1 _ _ _ _ _ _ _ _ _ _ _ (p6.fail (Int.le_refl _) t6 hc _) k6 (by omega) (by omega) (by omega) (fun e => absurd e hc)
          · exact h1 _ _ _ _ _ _ _ _ _ _ _ p6 k6 m6 t6 c6 q6
        · exact h1 _ _ _ _ _ _ _ _ _ _ _ p6 k6 m6 t6 c6 q6
    · have hv := hv rfl
      refine callBy cb48 (c_enter fun v deep2 code2 pos2 y1 y2 y3 => ?_)
      cases v <;> simp (maxSteps := 4000000) only [go_sem, reduceIte, reduceCtorEq, Nat.reduceAdd, Nat.reduceSub, Nat.reduceMul, Nat.reduceLeDiff, Nat.reduceLT, Nat.reduceEqDiff, Nat.reduceBEq, p0.wrap1]
      · exact h1 _ _ _ _ _ _ _ _ _ _ _ (p0.fail (Int.le_refl _) g1 (y2 rfl) _) (Keep.refl _ _) (by omega) (by omega) (by omega) (fun e => absurd e (y2 rfl))
      · have p3 := p0.step (at1 := at0 + 1) (code1 := code2) (by omega) hv y3
        refine callBy cb49 (ih.several p3 (by omega) (by omega) fun lv5 a5 l5 comma at5 nv5 ns5 deep5 df5 lp5 tp5 code5 pos5 L5 i5 s5 p5 k5 m5 t5 c5 d5 q5 => ?_)
        simp (maxSteps := 4000000) only [go_sem, reduceIte, reduceCtorEq, Nat.reduceAdd, Nat.reduceSub, Nat.reduceMul, Nat.reduceLeDiff, Nat.reduceLT, Nat.reduceEqDiff, Nat.reduceBEq, i5.one]
        refine callBy cb35 (c_want p5 fun v at6 code6 pos6 z1 z2 z3 z4 z5 => ?_)
        simp (maxSteps := 4000000) only [go_sem, reduceIte, reduceCtorEq, Nat.reduceAdd, Nat.reduceSub, Nat.reduceMul, Nat.reduceLeDiff, Nat.reduceLT, Nat.reduceEqDiff, Nat.reduceBEq, i5.one]
        have p6 := p5.step (code1 := code6) z4 z5 (fun e => (z3 e).1)
        cases comma <;> simp (maxSteps := 4000000) only [go_sem, reduceIte, reduceCtorEq, Nat.reduceAdd, Nat.reduceSub, Nat.reduceMul, Nat.reduceLeDiff, Nat.reduceLT, Nat.reduceEqDiff, Nat.reduceBEq, i5.loc]
        · have s5 := s5 rfl
          subst s5
          simp (maxSteps := 4000000) only [go_sem, reduceIte, reduceCtorEq, Nat.reduceAdd, Nat.reduceSub, Nat.reduceMul, Nat.reduceLeDiff, Nat.reduceLT, Nat.reduceEqDiff, Nat.reduceBEq, i5.at (i := 0) (Int.le_refl 0) (by rfl)]
          exact h1 _ _ _ _ _ _ _ _ _ _ _ p6 k5 (by omega) (by omega) (by omega) (fun e => ⟨e0, by omega⟩)
        · have d5 := d5 rfl
          refine callBy cb16 (c_put (ks := a5 :: l5) p6 i5 (by omega) fun r7 nv7 ns7 L7 p7 k7 c7 => ?_)
          simp (maxSteps := 4000000) only [go_sem, reduceIte, reduceCtorEq, Nat.reduceAdd, Nat.reduceSub, Nat.reduceMul, Nat.reduceLeDiff, Nat.reduceLT, Nat.reduceEqDiff, Nat.reduceBEq]
          exact h1 _ _ _ _ _ _ _ _ _ _ _ p7 (k5.trans k7) (by omega) (by omega) (by omega) (fun e => ⟨e0, by omega⟩)
  · exact h1 _ _ _ _ _ _ _ _ _ _ _ (p0.bad e0 _) (Keep.refl _ _) (by omega) (by omega) (by omega) (fun e => absurd e e0)

theorem e_targets (ih : AllE ts N) : CE ts (N + 1) 18 34 := by
  intro p b L ρt at0 nv0 deep0 df0 lp0 tp0 code0 pos0 ns0 R S p0 room hN h1
  have g0 := p0.pos
  have g1 := p0.lt
  have g2 := p0.tok.most
  refine acalls_of Try.func34 rfl (rd_ok hMix (κ := fun _ => false) δ0 _ rfl ?_)
  simp (maxSteps := 4000000) only [go_sem, reduceIte, reduceCtorEq, Nat.reduceAdd, Nat.reduceSub, Nat.reduceMul, Nat.reduceLeDiff, Nat.reduceLT, Nat.reduceEqDiff, Nat.reduceBEq, Try.ntmps34, Try.f34]
  refine callBy cb12 (c_bad (fun e0 => ?_) (fun e0 => ?_)) <;> simp (maxSteps := 4000000) only [go_sem, reduceIte, reduceCtorEq, Nat.reduceAdd, Nat.reduceSub, Nat.reduceMul, Nat.reduceLeDiff, Nat.reduceLT, Nat.reduceEqDiff, Nat.reduceBEq]
  · refine callBy cb13 (c_now p0 fun tok x1 x2 x3 => ?_)
    simp (maxSteps := 4000000) only [go_sem, reduceIte, reduceCtorEq, Nat.reduceAdd, Nat.reduceSub, Nat.reduceMul, Nat.reduceLeDiff, Nat.reduceLT, Nat.reduceEqDiff, Nat.reduceBEq]
    refine callBy cb49 (ih.several p0 (by omega) (by omega) fun lv5 a5 l5 comma at5 nv5 ns5 deep5 df5 lp5 tp5 code5 pos5 L5 i5 s5 p5 k5 m5 t5 c5 d5 q5 => ?_)
    simp (maxSteps := 4000000) only [go_sem, reduceIte, reduceCtorEq, Nat.reduceAdd, Nat.reduceSub, Nat.reduceMul, Nat.reduceLeDiff, Nat.reduceLT, Nat.reduceEqDiff, Nat.reduceBEq, i5.one]
    cases comma <;> simp (maxSteps := 4000000) only [go_sem, reduceIte, reduceCtorEq, Nat.reduceAdd, Nat.reduceSub, Nat.reduceMul, Nat.reduceLeDiff, Nat.reduceLT, Nat.reduceEqDiff, Nat.reduceBEq, i5.loc]
    · have s5 := s5 rfl
      subst s5
      simp (maxSteps := 4000000) only [go_sem, reduceIte, reduceCtorEq, Nat.reduceAdd, Nat.reduceSub, Nat.reduceMul, Nat.reduceLeDiff, Nat.reduceLT, Nat.reduceEqDiff, Nat.reduceBEq, i5.at (i := 0) (Int.le_refl 0) (by rfl)]
      exact h1 _ _ _ _ _ _ _ _ _ _ _ p5 k5 m5 t5 c5 q5
    · have d5 := d5 rfl
      refine callBy cb16 (c_put (ks := a5 :: l5) p5 i5 (by omega) fun r7 nv7 ns7 L7 p7 k7 c7 => ?_)
      simp (maxSteps := 4000000) only [go_sem, reduceIte, reduceCtorEq, Nat.reduceAdd, Nat.reduceSub, Nat.reduceMul, Nat.reduceLeDiff, Nat.reduceLT, Nat.reduceEqDiff, Nat.reduceBEq]
      exact h1 _ _ _ _ _ _ _ _ _ _ _ p7 (k5.trans k7) (by omega) (by omega) (by omega) q5
  · exact h1 _ _ _ _ _ _ _ _ _ _ _ (p0.bad e0 _) (Keep.refl _ _) (by omega) (by omega) (by omega) (fun e => absurd e e0)

end Go.Proofs.Ab5
end
