/-
  The reference parser: from the left, signs ahead, comparisons.
-/
import Derived.Test.YtdgfmdjlhkjbaaaDb
set_option linter.all false
section
set_option maxRecDepth 10000
set_option maxHeartbeats 4000000
set_option linter.unusedSimpArgs false
set_option linter.unusedVariables false
namespace Go.Proofs.Ab5
open Go.Ab Go.Proofs
variable {ts : List Tok} {N : Nat}
theorem e_or (ih : AllE ts N) : CE ts (N + 1) 23 56 := by
  intro p b L ρt at0 nv0 deep0 df0 lp0 tp0 code0 pos0 ns0 R S p0 room hN h1
  have g0 := p0.pos
  have g1 := p0.lt
  have g2 := p0.tok.most
  refine acalls_of Try.func56 rfl (rd_ok hMix (κ := fun _ => false) δ0 _ rfl ?_)
  simp (maxSteps := 4000000) only [go_sem, reduceIte, reduceCtorEq, Nat.reduceAdd, Nat.reduceSub, Nat.reduceMul, Nat.reduceLeDiff, Nat.reduceLT, Nat.reduceEqDiff, Nat.reduceBEq, Try.ntmps56, Try.f56]
  refine callBy cb59 (ih.and p0 room (by omega) fun r1 at1 nv1 ns1 deep1 df1 lp1 tp1 code1 pos1 L1 p1 k1 m1 t1 c1 q1 => ?_)
  simp (maxSteps := 4000000) only [go_sem, reduceIte, reduceCtorEq, Nat.reduceAdd, Nat.reduceSub, Nat.reduceMul, Nat.reduceLeDiff, Nat.reduceLT, Nat.reduceEqDiff, Nat.reduceBEq]
  refine AWp.loop_st [true, false, false, true, false, false, false, false, false, false, false, false, false, false, false, false, false, false, false, false, false, false, false, false, false, false, false, false, false, false, false, false, false, false, false] [] (fun x : LS => ⟨[.ptr p 0, .any, .any, .int .i64 x.a, .any, .any, .any, .any, .any, .any, .any, .any, .any, .any, .any, .any, .any, .any, .any, .any, .any, .any, .any, .any, .any, .any, .any, .any, .any, .any, .any, .any, .any, .any, .any], []⟩) (fun x => ⟨upd b p (some (pcells ρt ts x.at' x.nv x.deep x.df x.lp x.tp x.code x.pos)), x.L⟩)
    (fun x => PI ts x.at' x.nv x.ns x.code x.L (x.a :: R) ∧ Keep L nv0 x.L x.nv ∧ at0 ≤ x.at' ∧ (x.ns.length : Int) + at0 ≤ ns0.length + x.at' ∧ (x.code = 0 → code0 = 0 ∧ at0 < x.at'))
    (fun x => (ts.length - x.at').toNat) ⟨r1, at1, nv1, ns1, deep1, df1, lp1, tp1, code1, pos1, L1, .nilSlice, [], false⟩ ?_ ?_ rfl ⟨p1, k1, m1, c1, q1⟩ ?_
  · simp (maxSteps := 4000000) only [go_sem, reduceIte, reduceCtorEq, Nat.reduceAdd, Nat.reduceSub, Nat.reduceMul, Nat.reduceLeDiff, Nat.reduceLT, Nat.reduceEqDiff, Nat.reduceBEq]
  · simp (maxSteps := 4000000) only [go_sem, reduceIte, reduceCtorEq, Nat.reduceAdd, Nat.reduceSub, Nat.reduceMul, Nat.reduceLeDiff, Nat.reduceLT, Nat.reduceEqDiff, Nat.reduceBEq]
  rintro ⟨a, at2, nv2, ns2, deep2, df2, lp2, tp2, code2, pos2, L2, _, _, _⟩ ⟨p2, k2, m2, c2, q2⟩
  dsimp only at p2 k2 m2 c2 q2 ⊢
  have g3 := p2.pos
  have g4 := p2.lt
  refine rd_ok hMix (κ := fun _ => false) δ0 _ rfl ?_
  simp (maxSteps := 4000000) only [go_sem, reduceIte, reduceCtorEq, Nat.reduceAdd, Nat.reduceSub, Nat.reduceMul, Nat.reduceLeDiff, Nat.reduceLT, Nat.reduceEqDiff, Nat.reduceBEq]
  refine callBy cb12 (c_bad (fun e2 => ?_) (fun e2 => ?_)) <;> simp (maxSteps := 4000000) only [go_sem, reduceIte, reduceCtorEq, Nat.reduceAdd, Nat.reduceSub, Nat.reduceMul, Nat.reduceLeDiff, Nat.reduceLT, Nat.reduceEqDiff, Nat.reduceBEq]
  · refine callBy cb32 (c_is p2 fun v hv => ?_)
    cases v <;> simp (maxSteps := 4000000) only [go_sem, reduceIte, reduceCtorEq, Nat.reduceAdd, Nat.reduceSub, Nat.reduceMul, Nat.reduceLeDiff, Nat.reduceLT, Nat.reduceEqDiff, Nat.reduceBEq]
    · exact h1 _ _ _ _ _ _ _ _ _ _ _ p2 k2 m2 g4 c2 q2
    · have hv := hv rfl
      refine callBy cb13 (c_now p2 fun tok x1 x2 x3 => ?_)
      simp (maxSteps := 4000000) only [go_sem, reduceIte, reduceCtorEq, Nat.reduceAdd, Nat.reduceSub, Nat.reduceMul, Nat.reduceLeDiff, Nat.reduceLT, Nat.reduceEqDiff, Nat.reduceBEq, p2.wrap1]
      have p3 := p2.step (at1 := at2 + 1) (code1 := code2) (by omega) hv id
      refine callBy cb59 (ih.and p3 (by omega) (by omega) fun r4 at4 nv4 ns4 deep4 df4 lp4 tp4 code4 pos4 L4 p4 k4 m4 t4 c4 q4 => ?_)
      simp (maxSteps := 4000000) only [go_sem, reduceIte, reduceCtorEq, Nat.reduceAdd, Nat.reduceSub, Nat.reduceMul, Nat.reduceLeDiff, Nat.reduceLT, Nat.reduceEqDiff, Nat.reduceBEq]
      intro n hn hL
      refine callBy cb16 (c_put (ks := [a, r4]) ((p4.roots (List.Perm.swap _ _ _)).grow (Grow.upd n)) (.inr ⟨some n, rfl⟩) (by omega) fun r5 nv5 ns5 L5 p5 k5 c5 => ?_)
      simp (maxSteps := 4000000) only [go_sem, reduceIte, reduceCtorEq, Nat.reduceAdd, Nat.reduceSub, Nat.reduceMul, Nat.reduceLeDiff, Nat.reduceLT, Nat.reduceEqDiff, Nat.reduceBEq]
      refine ⟨⟨r5, at4, nv5, ns5, deep4, df4, lp4, tp4, code4, pos4, L5, .nilSlice, [], false⟩, rfl, rfl, ⟨p5, k2.trans (k4.trans ((Grow.upd n).keep.trans k5)), ?_, ?_, ?_⟩, ?_⟩
      all_goals dsimp only
      · omega
      · omega
      · intro e; have := q4 e; omega
      · omega
  · exact h1 _ _ _ _ _ _ _ _ _ _ _ p2 k2 m2 g4 c2 q2

theorem e_and (ih : AllE ts N) : CE ts (N + 1) 22 59 := by
  intro p b L ρt at0 nv0 deep0 df0 lp0 tp0 code0 pos0 ns0 R S p0 room hN h1
  have g0 := p0.pos
  have g1 := p0.lt
  have g2 := p0.tok.most
  refine acalls_of Try.func59 rfl (rd_ok hMix (κ := fun _ => false) δ0 _ rfl ?_)
  simp (maxSteps := 4000000) only [go_sem, reduceIte, reduceCtorEq, Nat.reduceAdd, Nat.reduceSub, Nat.reduceMul, Nat.reduceLeDiff, Nat.reduceLT, Nat.reduceEqDiff, Nat.reduceBEq, Try.ntmps59, Try.f59]
  refine callBy cb62 (ih.not p0 room (by omega) fun r1 at1 nv1 ns1 deep1 df1 lp1 tp1 code1 pos1 L1 p1 k1 m1 t1 c1 q1 => ?_)
  simp (maxSteps := 4000000) only [go_sem, reduceIte, reduceCtorEq, Nat.reduceAdd, Nat.reduceSub, Nat.reduceMul, Nat.reduceLeDiff, Nat.reduceLT, Nat.reduceEqDiff, Nat.reduceBEq]
  refine AWp.loop_st [true, false, false, true, false, false, false, false, false, false, false, false, false, false, false, false, false, false, false, false, false, false, false, false, false, false, false, false, false, false, false, false, false, false, false] [] (fun x : LS => ⟨[.ptr p 0, .any, .any, .int .i64 x.a, .any, .any, .any, .any, .any, .any, .any, .any, .any, .any, .any, .any, .any, .any, .any, .any, .any, .any, .any, .any, .any, .any, .any, .any, .any, .any, .any, .any, .any, .any, .any], []⟩) (fun x => ⟨upd b p (some (pcells ρt ts x.at' x.nv x.deep x.df x.lp x.tp x.code x.pos)), x.L⟩)
    (fun x => PI ts x.at' x.nv x.ns x.code x.L (x.a :: R) ∧ Keep L nv0 x.L x.nv ∧ at0 ≤ x.at' ∧ (x.ns.length : Int) + at0 ≤ ns0.length + x.at' ∧ (x.code = 0 → code0 = 0 ∧ at0 < x.at'))
    (fun x => (ts.length - x.at').toNat) ⟨r1, at1, nv1, ns1, deep1, df1, lp1, tp1, code1, pos1, L1, .nilSlice, [], false⟩ ?_ ?_ rfl ⟨p1, k1, m1, c1, q1⟩ ?_
  · simp (maxSteps := 4000000) only [go_sem, reduceIte, reduceCtorEq, Nat.reduceAdd, Nat.reduceSub, Nat.reduceMul, Nat.reduceLeDiff, Nat.reduceLT, Nat.reduceEqDiff, Nat.reduceBEq]
  · simp (maxSteps := 4000000) only [go_sem, reduceIte, reduceCtorEq, Nat.reduceAdd, Nat.reduceSub, Nat.reduceMul, Nat.reduceLeDiff, Nat.reduceLT, Nat.reduceEqDiff, Nat.reduceBEq]
  rintro ⟨a, at2, nv2, ns2, deep2, df2, lp2, tp2, code2, pos2, L2, _, _, _⟩ ⟨p2, k2, m2, c2, q2⟩
  dsimp only at p2 k2 m2 c2 q2 ⊢
  have g3 := p2.pos
  have g4 := p2.lt
  refine rd_ok hMix (κ := fun _ => false) δ0 _ rfl ?_
  simp (maxSteps := 4000000) only [go_sem, reduceIte, reduceCtorEq, Nat.reduceAdd, Nat.reduceSub, Nat.reduceMul, Nat.reduceLeDiff, Nat.reduceLT, Nat.reduceEqDiff, Nat.reduceBEq]
  refine callBy cb12 (c_bad (fun e2 => ?_) (fun e2 => ?_)) <;> simp (maxSteps := 4000000) only [go_sem, reduceIte, reduceCtorEq, Nat.reduceAdd, Nat.reduceSub, Nat.reduceMul, Nat.reduceLeDiff, Nat.reduceLT, Nat.reduceEqDiff, Nat.reduceBEq]
  · refine callBy cb32 (c_is p2 fun v hv => ?_)
    cases v <;> simp (maxSteps := 4000000) only [go_sem, reduceIte, reduceCtorEq, Nat.reduceAdd, Nat.reduceSub, Nat.reduceMul, Nat.reduceLeDiff, Nat.reduceLT, Nat.reduceEqDiff, Nat.reduceBEq]
    · exact h1 _ _ _ _ _ _ _ _ _ _ _ p2 k2 m2 g4 c2 q2
    · have hv := hv rfl
      refine callBy cb13 (c_now p2 fun tok x1 x2 x3 => ?_)
      simp (maxSteps := 4000000) only [go_sem, reduceIte, reduceCtorEq, Nat.reduceAdd, Nat.reduceSub, Nat.reduceMul, Nat.reduceLeDiff, Nat.reduceLT, Nat.reduceEqDiff, Nat.reduceBEq, p2.wrap1]
      have p3 := p2.step (at1 := at2 + 1) (code1 := code2) (by omega) hv id
      refine callBy cb62 (ih.not p3 (by omega) (by omega) fun r4 at4 nv4 ns4 deep4 df4 lp4 tp4 code4 pos4 L4 p4 k4 m4 t4 c4 q4 => ?_)
      simp (maxSteps := 4000000) only [go_sem, reduceIte, reduceCtorEq, Nat.reduceAdd, Nat.reduceSub, Nat.reduceMul, Nat.reduceLeDiff, Nat.reduceLT, Nat.reduceEqDiff, Nat.reduceBEq]
      intro n hn hL
      refine callBy cb16 (c_put (ks := [a, r4]) ((p4.roots (List.Perm.swap _ _ _)).grow (Grow.upd n)) (.inr ⟨some n, rfl⟩) (by omega) fun r5 nv5 ns5 L5 p5 k5 c5 => ?_)
      simp (maxSteps := 4000000) only [go_sem, reduceIte, reduceCtorEq, Nat.reduceAdd, Nat.reduceSub, Nat.reduceMul, Nat.reduceLeDiff, Nat.reduceLT, Nat.reduceEqDiff, Nat.reduceBEq]
      refine ⟨⟨r5, at4, nv5, ns5, deep4, df4, lp4, tp4, code4, pos4, L5, .nilSlice, [], false⟩, rfl, rfl, ⟨p5, k2.trans (k4.trans ((Grow.upd n).keep.trans k5)), ?_, ?_, ?_⟩, ?_⟩
      all_goals dsimp only
      · omega
      · omega
      · intro e; have := q4 e; omega
      · omega
  · exact h1 _ _ _ _ _ _ _ _ _ _ _ p2 k2 m2 g4 c2 q2

theorem e_not (ih : AllE ts N) : CE ts (N + 1) 21 62 := by
  intro p b L ρt at0 nv0 deep0 df0 lp0 tp0 code0 pos0 ns0 R S p0 room hN h1
  have g0 := p0.pos
  have g1 := p0.lt
  have g2 := p0.tok.most
  refine acalls_of Try.func62 rfl (rd_ok hMix (κ := fun _ => false) δ0 _ rfl ?_)
  simp (maxSteps := 4000000) only [go_sem, reduceIte, reduceCtorEq, Nat.reduceAdd, Nat.reduceSub, Nat.reduceMul, Nat.reduceLeDiff, Nat.reduceLT, Nat.reduceEqDiff, Nat.reduceBEq, Try.ntmps62, Try.f62]
  refine callBy cb12 (c_bad (fun e0 => ?_) (fun e0 => ?_)) <;> simp (maxSteps := 4000000) only [go_sem, reduceIte, reduceCtorEq, Nat.reduceAdd, Nat.reduceSub, Nat.reduceMul, Nat.reduceLeDiff, Nat.reduceLT, Nat.reduceEqDiff, Nat.reduceBEq]
  · refine callBy cb32 (c_is p0 fun v hv => ?_)
    cases v <;> simp (maxSteps := 4000000) only [go_sem, reduceIte, reduceCtorEq, Nat.reduceAdd, Nat.reduceSub, Nat.reduceMul, Nat.reduceLeDiff, Nat.reduceLT, Nat.reduceEqDiff, Nat.reduceBEq]
    · refine callBy cb66 (ih.compare p0 room (by omega) fun r1 at1 nv1 ns1 deep1 df1 lp1 tp1 code1 pos1 L1 p1 k1 m1 t1 c1 q1 => ?_)
      simp (maxSteps := 4000000) only [go_sem, reduceIte, reduceCtorEq, Nat.reduceAdd, Nat.reduceSub, Nat.reduceMul, Nat.reduceLeDiff, Nat.reduceLT, Nat.reduceEqDiff, Nat.reduceBEq]
      exact h1 _ _ _ _ _ _ _ _ _ _ _ p1 k1 m1 t1 c1 q1
    · have hv := hv rfl
      refine callBy cb13 (c_now p0 fun tok x1 x2 x3 => ?_)
      simp (maxSteps := 4000000) only [go_sem, reduceIte, reduceCtorEq, Nat.reduceAdd, Nat.reduceSub, Nat.reduceMul, Nat.reduceLeDiff, Nat.reduceLT, Nat.reduceEqDiff, Nat.reduceBEq]
      refine callBy cb48 (c_enter fun v deep2 code2 pos2 y1 y2 y3 => ?_)
      cases v <;> simp (maxSteps := 4000000) only [go_sem, reduceIte, reduceCtorEq, Nat.reduceAdd, Nat.reduceSub, Nat.reduceMul, Nat.reduceLeDiff, Nat.reduceLT, Nat.reduceEqDiff, Nat.reduceBEq, p0.wrap1]
      · exact h1 _ _ _ _ _ _ _ _ _ _ _ (p0.fail (Int.le_refl _) g1 (y2 rfl) _) (Keep.refl _ _) (by omega) (by omega) (by omega) (fun e => absurd e (y2 rfl))
      · have p3 := p0.step (at1 := at0 + 1) (code1 := code2) (by omega) hv y3
        refine callBy cb62 (ih.not p3 (by omega) (by omega) fun r4 at4 nv4 ns4 deep4 df4 lp4 tp4 code4 pos4 L4 p4 k4 m4 t4 c4 q4 => ?_)
        simp (maxSteps := 4000000) only [go_sem, reduceIte, reduceCtorEq, Nat.reduceAdd, Nat.reduceSub, Nat.reduceMul, Nat.reduceLeDiff, Nat.reduceLT, Nat.reduceEqDiff, Nat.reduceBEq]
        intro n hn hL
        refine callBy cb16 (c_put (ks := [r4]) (p4.grow (Grow.upd n)) (.inr ⟨some n, rfl⟩) (by omega) fun r5 nv5 ns5 L5 p5 k5 c5 => ?_)
        simp (maxSteps := 4000000) only [go_sem, reduceIte, reduceCtorEq, Nat.reduceAdd, Nat.reduceSub, Nat.reduceMul, Nat.reduceLeDiff, Nat.reduceLT, Nat.reduceEqDiff, Nat.reduceBEq]
        exact h1 _ _ _ _ _ _ _ _ _ _ _ p5 (k4.trans ((Grow.upd n).keep.trans k5)) (by omega) (by omega) (by omega) (fun e => ⟨e0, by omega⟩)
  · refine callBy cb66 (ih.compare p0 room (by omega) fun r1 at1 nv1 ns1 deep1 df1 lp1 tp1 code1 pos1 L1 p1 k1 m1 t1 c1 q1 => ?_)
    simp (maxSteps := 4000000) only [go_sem, reduceIte, reduceCtorEq, Nat.reduceAdd, Nat.reduceSub, Nat.reduceMul, Nat.reduceLeDiff, Nat.reduceLT, Nat.reduceEqDiff, Nat.reduceBEq]
    exact h1 _ _ _ _ _ _ _ _ _ _ _ p1 k1 m1 t1 c1 q1

theorem e_unary (ih : AllE ts N) : CE ts (N + 1) 15 73 := by
  intro p b L ρt at0 nv0 deep0 df0 lp0 tp0 code0 pos0 ns0 R S p0 room hN h1
  have g0 := p0.pos
  have g1 := p0.lt
  have g2 := p0.tok.most
  refine acalls_of Try.func73 rfl (rd_ok hMix (κ := fun _ => false) δ0 _ rfl ?_)
  simp (maxSteps := 4000000) only [go_sem, reduceIte, reduceCtorEq, Nat.reduceAdd, Nat.reduceSub, Nat.reduceMul, Nat.reduceLeDiff, Nat.reduceLT, Nat.reduceEqDiff, Nat.reduceBEq, Try.ntmps73, Try.f73]
  refine callBy cb12 (c_bad (fun e0 => ?_) (fun e0 => ?_)) <;> simp (maxSteps := 4000000) only [go_sem, reduceIte, reduceCtorEq, Nat.reduceAdd, Nat.reduceSub, Nat.reduceMul, Nat.reduceLeDiff, Nat.reduceLT, Nat.reduceEqDiff, Nat.reduceBEq]
  · refine callBy cb32 (c_is p0 fun v hv => ?_)
    cases v <;> simp (maxSteps := 4000000) only [go_sem, reduceIte, reduceCtorEq, Nat.reduceAdd, Nat.reduceSub, Nat.reduceMul, Nat.reduceLeDiff, Nat.reduceLT, Nat.reduceEqDiff, Nat.reduceBEq]
    · refine callBy cb60 (ih.primary p0 room (by omega) fun r1 at1 nv1 ns1 deep1 df1 lp1 tp1 code1 pos1 L1 p1 k1 m1 t1 c1 q1 => ?_)
      simp (maxSteps := 4000000) only [go_sem, reduceIte, reduceCtorEq, Nat.reduceAdd, Nat.reduceSub, Nat.reduceMul, Nat.reduceLeDiff, Nat.reduceLT, Nat.reduceEqDiff, Nat.reduceBEq]
      exact h1 _ _ _ _ _ _ _ _ _ _ _ p1 k1 m1 t1 c1 q1
    · have hv := hv rfl
      refine callBy cb13 (c_now p0 fun tok x1 x2 x3 => ?_)
      simp (maxSteps := 4000000) only [go_sem, reduceIte, reduceCtorEq, Nat.reduceAdd, Nat.reduceSub, Nat.reduceMul, Nat.reduceLeDiff, Nat.reduceLT, Nat.reduceEqDiff, Nat.reduceBEq]
      refine callBy cb48 (c_enter fun v deep2 code2 pos2 y1 y2 y3 => ?_)
      cases v <;> simp (maxSteps := 4000000) only [go_sem, reduceIte, reduceCtorEq, Nat.reduceAdd, Nat.reduceSub, Nat.reduceMul, Nat.reduceLeDiff, Nat.reduceLT, Nat.reduceEqDiff, Nat.reduceBEq, p0.wrap1]
      · exact h1 _ _ _ _ _ _ _ _ _ _ _ (p0.fail (Int.le_refl _) g1 (y2 rfl) _) (Keep.refl _ _) (by omega) (by omega) (by omega) (fun e => absurd e (y2 rfl))
      · have p3 := p0.step (at1 := at0 + 1) (code1 := code2) (by omega) hv y3
        refine callBy cb73 (ih.unary p3 (by omega) (by omega) fun r4 at4 nv4 ns4 deep4 df4 lp4 tp4 code4 pos4 L4 p4 k4 m4 t4 c4 q4 => ?_)
        simp (maxSteps := 4000000) only [go_sem, reduceIte, reduceCtorEq, Nat.reduceAdd, Nat.reduceSub, Nat.reduceMul, Nat.reduceLeDiff, Nat.reduceLT, Nat.reduceEqDiff, Nat.reduceBEq]
        intro n hn hL
        refine callBy cb16 (c_put (ks := [r4]) (p4.grow (Grow.upd n)) (.inr ⟨some n, rfl⟩) (by omega) fun r5 nv5 ns5 L5 p5 k5 c5 => ?_)
        simp (maxSteps := 4000000) only [go_sem, reduceIte, reduceCtorEq, Nat.reduceAdd, Nat.reduceSub, Nat.reduceMul, Nat.reduceLeDiff, Nat.reduceLT, Nat.reduceEqDiff, Nat.reduceBEq]
        exact h1 _ _ _ _ _ _ _ _ _ _ _ p5 (k4.trans ((Grow.upd n).keep.trans k5)) (by omega) (by omega) (by omega) (fun e => ⟨e0, by omega⟩)
  · refine callBy cb60 (ih.primary p0 room (by omega) fun r1 at1 nv1 ns1 deep1 df1 lp1 tp1 code1 pos1 L1 p1 k1 m1 t1 c1 q1 => ?_)
    simp (maxSteps := 4000000) only [go_sem, reduceIte, reduceCtorEq, Nat.reduceAdd, Nat.reduceSub, Nat.reduceMul, Nat.reduceLeDiff, Nat.reduceLT, Nat.reduceEqDiff, Nat.reduceBEq]
    exact h1 _ _ _ _ _ _ _ _ _ _ _ p1 k1 m1 t1 c1 q1

theorem e_compare (ih : AllE ts N) : CE ts (N + 1) 20 66 := by
  intro p b L ρt at0 nv0 deep0 df0 lp0 tp0 code0 pos0 ns0 R S p0 room hN h1
  have g0 := p0.pos
  have g1 := p0.lt
  have g2 := p0.tok.most
  refine acalls_of Try.func66 rfl (rd_ok hMix (κ := fun _ => false) δ0 _ rfl ?_)
  simp (maxSteps := 4000000) only [go_sem, reduceIte, reduceCtorEq, Nat.reduceAdd, Nat.reduceSub, Nat.reduceMul, Nat.reduceLeDiff, Nat.reduceLT, Nat.reduceEqDiff, Nat.reduceBEq, Try.ntmps66, Try.f66]
  refine callBy cb70 (ih.sum p0 room (by omega) fun r1 at1 nv1 ns1 deep1 df1 lp1 tp1 code1 pos1 L1 p1 k1 m1 t1 c1 q1 => ?_)
  simp (maxSteps := 4000000) only [go_sem, reduceIte, reduceCtorEq, Nat.reduceAdd, Nat.reduceSub, Nat.reduceMul, Nat.reduceLeDiff, Nat.reduceLT, Nat.reduceEqDiff, Nat.reduceBEq]
  have g3 := p1.pos
  refine callBy cb12 (c_bad (fun e1 => ?_) (fun e1 => ?_)) <;> simp (maxSteps := 4000000) only [go_sem, reduceIte, reduceCtorEq, Nat.reduceAdd, Nat.reduceSub, Nat.reduceMul, Nat.reduceLeDiff, Nat.reduceLT, Nat.reduceEqDiff, Nat.reduceBEq]
  · have w1 := q1 e1
    refine callBy cb71 (c_relation p1 fun op L2 gr2 hop => ?_)
    simp (maxSteps := 4000000) only [go_sem, reduceIte, reduceCtorEq, Nat.reduceAdd, Nat.reduceSub, Nat.reduceMul, Nat.reduceLeDiff, Nat.reduceLT, Nat.reduceEqDiff, Nat.reduceBEq]
    refine ⟨fun e2 => ?_, fun e2 => ?_⟩
    · exact h1 _ _ _ _ _ _ _ _ _ _ _ (p1.grow gr2) (k1.trans gr2.keep) (by omega) (by omega) (by omega) (fun _ => w1)
    · have hop := hop e2
      have p2 := p1.grow gr2
      refine callBy cb13 (c_now p2 fun tok x1 x2 x3 => ?_)
      simp (maxSteps := 4000000) only [go_sem, reduceIte, reduceCtorEq, Nat.reduceAdd, Nat.reduceSub, Nat.reduceMul, Nat.reduceLeDiff, Nat.reduceLT, Nat.reduceEqDiff, Nat.reduceBEq, p2.wrap1]
      have p3 := p2.step (at1 := at1 + 1) (code1 := code1) (by omega) hop id
      have k3 := k1.trans gr2.keep
      have tail : ∀ {at4 : Int} {code4 pos4 : Int} {aa : AAct}, PI ts at4 nv1 ns1 code4 L2 (r1 :: R) → at1 < at4 → (code4 = 0 → code1 = 0) → True := fun _ _ _ => trivial
      refine ⟨fun e4 => ?_, fun e4 => ?_⟩
      · refine callBy cb35 (c_want p3 fun v at4 code4 pos4 y1 y2 y3 y4 y5 => ?_)
        cases v <;> simp (maxSteps := 4000000) only [go_sem, reduceIte, reduceCtorEq, Nat.reduceAdd, Nat.reduceSub, Nat.reduceMul, Nat.reduceLeDiff, Nat.reduceLT, Nat.reduceEqDiff, Nat.reduceBEq]
        · exact h1 _ _ _ _ _ _ _ _ _ _ _ (p3.fail y4 y5 (y2 rfl) _) k3 (by omega) (by omega) (by omega) (fun e => absurd e (y2 rfl))
        · have p4 := p3.step (code1 := code4) y4 y5 (fun e => (y3 e).1)
          have c4 := y1 rfl
          refine callBy cb70 (ih.sum p4 (by omega) (by omega) fun r5 at5 nv5 ns5 deep5 df5 lp5 tp5 code5 pos5 L5 p5 k5 m5 t5 c5 q5 => ?_)
          simp (maxSteps := 4000000) only [go_sem, reduceIte, reduceCtorEq, Nat.reduceAdd, Nat.reduceSub, Nat.reduceMul, Nat.reduceLeDiff, Nat.reduceLT, Nat.reduceEqDiff, Nat.reduceBEq]
          refine callBy cb12 (c_bad (fun e5 => ?_) (fun e5 => ?_)) <;> simp (maxSteps := 4000000) only [go_sem, reduceIte, reduceCtorEq, Nat.reduceAdd, Nat.reduceSub, Nat.reduceMul, Nat.reduceLeDiff, Nat.reduceLT, Nat.reduceEqDiff, Nat.reduceBEq]
          · refine callBy cb71 (c_relation p5 fun op' L6 gr6 hop' => ?_)
            simp (maxSteps := 4000000) only [go_sem, reduceIte, reduceCtorEq, Nat.reduceAdd, Nat.reduceSub, Nat.reduceMul, Nat.reduceLeDiff, Nat.reduceLT, Nat.reduceEqDiff, Nat.reduceBEq]
            have p6 := p5.grow gr6
            refine ⟨fun e6 => ?_, fun e6 => ?_⟩
            · refine callBy cb37 (c_wrong p6 fun code7 pos7 hc7 => ?_)
              simp (maxSteps := 4000000) only [go_sem, reduceIte, reduceCtorEq, Nat.reduceAdd, Nat.reduceSub, Nat.reduceMul, Nat.reduceLeDiff, Nat.reduceLT, Nat.reduceEqDiff, Nat.reduceBEq]
              exact h1 _ _ _ _ _ _ _ _ _ _ _ (p6.fail (Int.le_refl _) (by omega) hc7 _) (k3.trans (k5.trans gr6.keep)) (by omega) (by omega) (by omega) (fun e => absurd e hc7)
            · intro n hn hL
              refine callBy cb16 (c_put (ks := [r1, r5]) ((p6.roots (List.Perm.swap _ _ _)).grow (Grow.upd n)) (.inr ⟨some n, rfl⟩) (by omega) fun r7 nv7 ns7 L7 p7 k7 c7 => ?_)
              simp (maxSteps := 4000000) only [go_sem, reduceIte, reduceCtorEq, Nat.reduceAdd, Nat.reduceSub, Nat.reduceMul, Nat.reduceLeDiff, Nat.reduceLT, Nat.reduceEqDiff, Nat.reduceBEq]
              exact h1 _ _ _ _ _ _ _ _ _ _ _ p7 (k3.trans (k5.trans (gr6.keep.trans ((Grow.upd n).keep.trans k7)))) (by omega) (by omega) (by omega) (fun e => ⟨w1.1, by omega⟩)
          · intro n hn hL
            refine callBy cb16 (c_put (ks := [r1, r5]) ((p5.roots (List.Perm.swap _ _ _)).grow (Grow.upd n)) (.inr ⟨some n, rfl⟩) (by omega) fun r7 nv7 ns7 L7 p7 k7 c7 => ?_)
            simp (maxSteps := 4000000) only [go_sem, reduceIte, reduceCtorEq, Nat.reduceAdd, Nat.reduceSub, Nat.reduceMul, Nat.reduceLeDiff, Nat.reduceLT, Nat.reduceEqDiff, Nat.reduceBEq]
            exact h1 _ _ _ _ _ _ _ _ _ _ _ p7 (k3.trans (k5.trans ((Grow.upd n).keep.trans k7))) (by omega) (by omega) (by omega) (fun e => ⟨w1.1, by omega⟩)
      · refine callBy cb70 (ih.sum p3 (by omega) (by omega) fun r5 at5 nv5 ns5 deep5 df5 lp5 tp5 code5 pos5 L5 p5 k5 m5 t5 c5 q5 => ?_)
        simp (maxSteps := 4000000) only [go_sem, reduceIte, reduceCtorEq, Nat.reduceAdd, Nat.reduceSub, Nat.reduceMul, Nat.reduceLeDiff, Nat.reduceLT, Nat.reduceEqDiff, Nat.reduceBEq]
        refine callBy cb12 (c_bad (fun e5 => ?_) (fun e5 => ?_)) <;> simp (maxSteps := 4000000) only [go_sem, reduceIte, reduceCtorEq, Nat.reduceAdd, Nat.reduceSub, Nat.reduceMul, Nat.reduceLeDiff, Nat.reduceLT, Nat.reduceEqDiff, Nat.reduceBEq]
        · refine callBy cb71 (c_relation p5 fun op' L6 gr6 hop' => ?_)
          simp (maxSteps := 4000000) only [go_sem, reduceIte, reduceCtorEq, Nat.reduceAdd, Nat.reduceSub, Nat.reduceMul, Nat.reduceLeDiff, Nat.reduceLT, Nat.reduceEqDiff, Nat.reduceBEq]
          have p6 := p5.grow gr6
          refine ⟨fun e6 => ?_, fun e6 => ?_⟩
          · refine callBy cb37 (c_wrong p6 fun code7 pos7 hc7 => ?_)
            simp (maxSteps := 4000000) only [go_sem, reduceIte, reduceCtorEq, Nat.reduceAdd, Nat.reduceSub, Nat.reduceMul, Nat.reduceLeDiff, Nat.reduceLT, Nat.reduceEqDiff, Nat.reduceBEq]
            exact h1 _ _ _ _ _ _ _ _ _ _ _ (p6.fail (Int.le_refl _) (by omega) hc7 _) (k3.trans (k5.trans gr6.keep)) (by omega) (by omega) (by omega) (fun e => absurd e hc7)
          · intro n hn hL
            refine callBy cb16 (c_put (ks := [r1, r5]) ((p6.roots (List.Perm.swap _ _ _)).grow (Grow.upd n)) (.inr ⟨some n, rfl⟩) (by omega) fun r7 nv7 ns7 L7 p7 k7 c7 => ?_)
            simp (maxSteps := 4000000) only [go_sem, reduceIte, reduceCtorEq, Nat.reduceAdd, Nat.reduceSub, Nat.reduceMul, Nat.reduceLeDiff, Nat.reduceLT, Nat.reduceEqDiff, Nat.reduceBEq]
            exact h1 _ _ _ _ _ _ _ _ _ _ _ p7 (k3.trans (k5.trans (gr6.keep.trans ((Grow.upd n).keep.trans k7)))) (by omega) (by omega) (by omega) (fun e => ⟨w1.1, by omega⟩)
        · intro n hn hL
          refine callBy cb16 (c_put (ks := [r1, r5]) ((p5.roots (List.Perm.swap _ _ _)).grow (Grow.upd n)) (.inr ⟨some n, rfl⟩) (by omega) fun r7 nv7 ns7 L7 p7 k7 c7 => ?_)
          simp (maxSteps := 4000000) only [go_sem, reduceIte, reduceCtorEq, Nat.reduceAdd, Nat.reduceSub, Nat.reduceMul, Nat.reduceLeDiff, Nat.reduceLT, Nat.reduceEqDiff, Nat.reduceBEq]
          exact h1 _ _ _ _ _ _ _ _ _ _ _ p7 (k3.trans (k5.trans ((Grow.upd n).keep.trans k7))) (by omega) (by omega) (by omega) (fun e => ⟨w1.1, by omega⟩)
  · exact h1 _ _ _ _ _ _ _ _ _ _ _ (p1.bad e1 _) k1 (by omega) (by omega) (by omega) (fun e => absurd e e1)

end Go.Proofs.Ab5
end
