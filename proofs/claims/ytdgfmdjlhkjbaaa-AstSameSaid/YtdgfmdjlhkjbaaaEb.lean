/-
  The reference parser: sums and products.
-/
import Derived.Test.YtdgfmdjlhkjbaaaDb
set_option linter.all false
section
set_option maxRecDepth 10000
set_option maxHeartbeats 4000000
set_option linter.unusedSimpArgs false
set_option linter.unusedVariables false
namespace Go.Proofs.Ab5
open Go.Ab Go.Proofs
variable {ts : List Tok} {N : Nat}
theorem e_sum (ih : AllE ts N) : CE ts (N + 1) 19 70 := by
  intro p b L ρt at0 nv0 deep0 df0 lp0 tp0 code0 pos0 ns0 R S p0 room hN h1
  have g0 := p0.pos
  have g1 := p0.lt
  have g2 := p0.tok.most
  refine acalls_of Try.func70 rfl (rd_ok hMix (κ := fun _ => false) δ0 _ rfl ?_)
  simp (maxSteps := 4000000) only [go_sem, reduceIte, reduceCtorEq, Nat.reduceAdd, Nat.reduceSub, Nat.reduceMul, Nat.reduceLeDiff, Nat.reduceLT, Nat.reduceEqDiff, Nat.reduceBEq, Try.ntmps70, Try.f70]
  refine callBy cb72 (ih.product p0 room (by omega) fun r1 at1 nv1 ns1 deep1 df1 lp1 tp1 code1 pos1 L1 p1 k1 m1 t1 c1 q1 => ?_)
  simp (maxSteps := 4000000) only [go_sem, reduceIte, reduceCtorEq, Nat.reduceAdd, Nat.reduceSub, Nat.reduceMul, Nat.reduceLeDiff, Nat.reduceLT, Nat.reduceEqDiff, Nat.reduceBEq]
  refine AWp.loop_st [true, false, false, true, false, false, false, false, false, false, false, false, false, false, false, false, false, false, false, false, false, false, false, false, false, false, false, false, false, false, false, false, false, false, false, false, false, false, false, false, false, false, false] [] (fun x : LS => ⟨[.ptr p 0, .any, .any, .int .i64 x.a, .any, .any, .any, .any, .any, .any, .any, .any, .any, .any, .any, .any, .any, .any, .any, .any, .any, .any, .any, .any, .any, .any, .any, .any, .any, .any, .any, .any, .any, .any, .any, .any, .any, .any, .any, .any, .any, .any, .any], []⟩) (fun x => ⟨upd b p (some (pcells ρt ts x.at' x.nv x.deep x.df x.lp x.tp x.code x.pos)), x.L⟩)
    (fun x => PI ts x.at' x.nv x.ns x.code x.L (x.a :: R) ∧ Keep L nv0 x.L x.nv ∧ at0 ≤ x.at' ∧ (x.ns.length : Int) + at0 ≤ ns0.length + x.at' ∧ (x.code = 0 → code0 = 0 ∧ at0 < x.at'))
    (fun x => (ts.length - x.at').toNat) ⟨r1, at1, nv1, ns1, deep1, df1, lp1, tp1, code1, pos1, L1, .nilSlice, [], false⟩ ?_ ?_ rfl ⟨p1, k1, m1, c1, q1⟩ ?_
  · simp (maxSteps := 4000000) only [go_sem, reduceIte, reduceCtorEq, Nat.reduceAdd, Nat.reduceSub, Nat.reduceMul, Nat.reduceLeDiff, Nat.reduceLT, Nat.reduceEqDiff, Nat.reduceBEq]
  · simp (maxSteps := 4000000) only [go_sem, reduceIte, reduceCtorEq, Nat.reduceAdd, Nat.reduceSub, Nat.reduceMul, Nat.reduceLeDiff, Nat.reduceLT, Nat.reduceEqDiff, Nat.reduceBEq]
  rintro ⟨a, at2, nv2, ns2, deep2, df2, lp2, tp2, code2, pos2, L2, _, _, _⟩ ⟨p2, k2, m2, c2, q2⟩
  dsimp only at p2 k2 m2 c2 q2 ⊢
  have g3 := p2.pos
  have g4 := p2.lt
  refine rd_ok hMix (κ := fun _ => false) δ0 _ rfl ?_
  simp (maxSteps := 4000000) only [go_sem, reduceIte, reduceCtorEq, Nat.reduceAdd, Nat.reduceSub, Nat.reduceMul, Nat.reduceLeDiff, Nat.reduceLT, Nat.reduceEqDiff, Nat.reduceBEq]
  refine callBy cb12 (c_bad (fun e2 => ?_) (fun e2 => ?_)) <;> simp (maxSteps := 4000000) only [go_sem, reduceIte, reduceCtorEq, Nat.reduceAdd, Nat.reduceSub, Nat.reduceMul, Nat.reduceLeDiff, Nat.reduceLT, Nat.reduceEqDiff, Nat.reduceBEq]
  · refine callBy cb32 (c_is p2 fun v0 hv0 => ?_)
    cases v0 <;> simp (maxSteps := 4000000) only [go_sem, reduceIte, reduceCtorEq, Nat.reduceAdd, Nat.reduceSub, Nat.reduceMul, Nat.reduceLeDiff, Nat.reduceLT, Nat.reduceEqDiff, Nat.reduceBEq]
    ·
      refine callBy cb32 (c_is p2 fun v1 hv1 => ?_)
      cases v1 <;> simp (maxSteps := 4000000) only [go_sem, reduceIte, reduceCtorEq, Nat.reduceAdd, Nat.reduceSub, Nat.reduceMul, Nat.reduceLeDiff, Nat.reduceLT, Nat.reduceEqDiff, Nat.reduceBEq]
      · exact h1 _ _ _ _ _ _ _ _ _ _ _ p2 k2 m2 g4 c2 q2
      · have hv := hv1 rfl
        refine callBy cb32 (c_is p2 fun u0 _ => ?_)
        cases u0 <;> simp (maxSteps := 4000000) only [go_sem, reduceIte, reduceCtorEq, Nat.reduceAdd, Nat.reduceSub, Nat.reduceMul, Nat.reduceLeDiff, Nat.reduceLT, Nat.reduceEqDiff, Nat.reduceBEq] <;> (
          refine callBy cb13 (c_now p2 fun tok x1 x2 x3 => ?_)
          simp (maxSteps := 4000000) only [go_sem, reduceIte, reduceCtorEq, Nat.reduceAdd, Nat.reduceSub, Nat.reduceMul, Nat.reduceLeDiff, Nat.reduceLT, Nat.reduceEqDiff, Nat.reduceBEq, p2.wrap1]
          have p3 := p2.step (at1 := at2 + 1) (code1 := code2) (by omega) hv id
          refine callBy cb72 (ih.product p3 (by omega) (by omega) fun r4 at4 nv4 ns4 deep4 df4 lp4 tp4 code4 pos4 L4 p4 k4 m4 t4 c4 q4 => ?_)
          simp (maxSteps := 4000000) only [go_sem, reduceIte, reduceCtorEq, Nat.reduceAdd, Nat.reduceSub, Nat.reduceMul, Nat.reduceLeDiff, Nat.reduceLT, Nat.reduceEqDiff, Nat.reduceBEq]
          intro n hn hL
          refine callBy cb16 (c_put (ks := [a, r4]) ((p4.roots (List.Perm.swap _ _ _)).grow (Grow.upd n)) (.inr ⟨some n, rfl⟩) (by omega) fun r5 nv5 ns5 L5 p5 k5 c5 => ?_)
          simp (maxSteps := 4000000) only [go_sem, reduceIte, reduceCtorEq, Nat.reduceAdd, Nat.reduceSub, Nat.reduceMul, Nat.reduceLeDiff, Nat.reduceLT, Nat.reduceEqDiff, Nat.reduceBEq]
          refine ⟨⟨r5, at4, nv5, ns5, deep4, df4, lp4, tp4, code4, pos4, L5, .nilSlice, [], false⟩, rfl, rfl, ⟨p5, k2.trans (k4.trans ((Grow.upd n).keep.trans k5)), ?_, ?_, ?_⟩, ?_⟩
          all_goals dsimp only
          · omega
          · omega
          · intro e; have := q4 e; omega
          · omega)
    · have hv := hv0 rfl
      refine callBy cb32 (c_is p2 fun u0 _ => ?_)
      cases u0 <;> simp (maxSteps := 4000000) only [go_sem, reduceIte, reduceCtorEq, Nat.reduceAdd, Nat.reduceSub, Nat.reduceMul, Nat.reduceLeDiff, Nat.reduceLT, Nat.reduceEqDiff, Nat.reduceBEq] <;> (
        refine callBy cb13 (c_now p2 fun tok x1 x2 x3 => ?_)
        simp (maxSteps := 4000000) only [go_sem, reduceIte, reduceCtorEq, Nat.reduceAdd, Nat.reduceSub, Nat.reduceMul, Nat.reduceLeDiff, Nat.reduceLT, Nat.reduceEqDiff, Nat.reduceBEq, p2.wrap1]
        have p3 := p2.step (at1 := at2 + 1) (code1 := code2) (by omega) hv id
        refine callBy cb72 (ih.product p3 (by omega) (by omega) fun r4 at4 nv4 ns4 deep4 df4 lp4 tp4 code4 pos4 L4 p4 k4 m4 t4 c4 q4 => ?_)
        simp (maxSteps := 4000000) only [go_sem, reduceIte, reduceCtorEq, Nat.reduceAdd, Nat.reduceSub, Nat.reduceMul, Nat.reduceLeDiff, Nat.reduceLT, Nat.reduceEqDiff, Nat.reduceBEq]
        intro n hn hL
        refine callBy cb16 (c_put (ks := [a, r4]) ((p4.roots (List.Perm.swap _ _ _)).grow (Grow.upd n)) (.inr ⟨some n, rfl⟩) (by omega) fun r5 nv5 ns5 L5 p5 k5 c5 => ?_)
        simp (maxSteps := 4000000) only [go_sem, reduceIte, reduceCtorEq, Nat.reduceAdd, Nat.reduceSub, Nat.reduceMul, Nat.reduceLeDiff, Nat.reduceLT, Nat.reduceEqDiff, Nat.reduceBEq]
        refine ⟨⟨r5, at4, nv5, ns5, deep4, df4, lp4, tp4, code4, pos4, L5, .nilSlice, [], false⟩, rfl, rfl, ⟨p5, k2.trans (k4.trans ((Grow.upd n).keep.trans k5)), ?_, ?_, ?_⟩, ?_⟩
        all_goals dsimp only
        · omega
        · omega
        · intro e; have := q4 e; omega
        · omega)
  · exact h1 _ _ _ _ _ _ _ _ _ _ _ p2 k2 m2 g4 c2 q2

theorem e_product (ih : AllE ts N) : CE ts (N + 1) 18 72 := by
  intro p b L ρt at0 nv0 deep0 df0 lp0 tp0 code0 pos0 ns0 R S p0 room hN h1
  have g0 := p0.pos
  have g1 := p0.lt
  have g2 := p0.tok.most
  refine acalls_of Try.func72 rfl (rd_ok hMix (κ := fun _ => false) δ0 _ rfl ?_)
  simp (maxSteps := 4000000) only [go_sem, reduceIte, reduceCtorEq, Nat.reduceAdd, Nat.reduceSub, Nat.reduceMul, Nat.reduceLeDiff, Nat.reduceLT, Nat.reduceEqDiff, Nat.reduceBEq, Try.ntmps72, Try.f72]
  refine callBy cb73 (ih.unary p0 room (by omega) fun r1 at1 nv1 ns1 deep1 df1 lp1 tp1 code1 pos1 L1 p1 k1 m1 t1 c1 q1 => ?_)
  simp (maxSteps := 4000000) only [go_sem, reduceIte, reduceCtorEq, Nat.reduceAdd, Nat.reduceSub, Nat.reduceMul, Nat.reduceLeDiff, Nat.reduceLT, Nat.reduceEqDiff, Nat.reduceBEq]
  refine AWp.loop_st [true, false, false, true, false, false, false, false, false, false, false, false, false, false, false, false, false, false, false, false, false, false, false, false, false, false, false, false, false, false, false, false, false, false, false, false, false, false, false, false, false, false, false, false, false, false, false, false, false] [] (fun x : LS => ⟨[.ptr p 0, .any, .any, .int .i64 x.a, .any, .any, .any, .any, .any, .any, .any, .any, .any, .any, .any, .any, .any, .any, .any, .any, .any, .any, .any, .any, .any, .any, .any, .any, .any, .any, .any, .any, .any, .any, .any, .any, .any, .any, .any, .any, .any, .any, .any, .any, .any, .any, .any, .any, .any], []⟩) (fun x => ⟨upd b p (some (pcells ρt ts x.at' x.nv x.deep x.df x.lp x.tp x.code x.pos)), x.L⟩)
    (fun x => PI ts x.at' x.nv x.ns x.code x.L (x.a :: R) ∧ Keep L nv0 x.L x.nv ∧ at0 ≤ x.at' ∧ (x.ns.length : Int) + at0 ≤ ns0.length + x.at' ∧ (x.code = 0 → code0 = 0 ∧ at0 < x.at'))
    (fun x => (ts.length - x.at').toNat) ⟨r1, at1, nv1, ns1, deep1, df1, lp1, tp1, code1, pos1, L1, .nilSlice, [], false⟩ ?_ ?_ rfl ⟨p1, k1, m1, c1, q1⟩ ?_
  · simp (maxSteps := 4000000) only [go_sem, reduceIte, reduceCtorEq, Nat.reduceAdd, Nat.reduceSub, Nat.reduceMul, Nat.reduceLeDiff, Nat.reduceLT, Nat.reduceEqDiff, Nat.reduceBEq]
  · simp (maxSteps := 4000000) only [go_sem, reduceIte, reduceCtorEq, Nat.reduceAdd, Nat.reduceSub, Nat.reduceMul, Nat.reduceLeDiff, Nat.reduceLT, Nat.reduceEqDiff, Nat.reduceBEq]
  rintro ⟨a, at2, nv2, ns2, deep2, df2, lp2, tp2, code2, pos2, L2, _, _, _⟩ ⟨p2, k2, m2, c2, q2⟩
  dsimp only at p2 k2 m2 c2 q2 ⊢
  have g3 := p2.pos
  have g4 := p2.lt
  refine rd_ok hMix (κ := fun _ => false) δ0 _ rfl ?_
  simp (maxSteps := 4000000) only [go_sem, reduceIte, reduceCtorEq, Nat.reduceAdd, Nat.reduceSub, Nat.reduceMul, Nat.reduceLeDiff, Nat.reduceLT, Nat.reduceEqDiff, Nat.reduceBEq]
  refine callBy cb12 (c_bad (fun e2 => ?_) (fun e2 => ?_)) <;> simp (maxSteps := 4000000) only [go_sem, reduceIte, reduceCtorEq, Nat.reduceAdd, Nat.reduceSub, Nat.reduceMul, Nat.reduceLeDiff, Nat.reduceLT, Nat.reduceEqDiff, Nat.reduceBEq]
  · refine callBy cb32 (c_is p2 fun v0 hv0 => ?_)
    cases v0 <;> simp (maxSteps := 4000000) only [go_sem, reduceIte, reduceCtorEq, Nat.reduceAdd, Nat.reduceSub, Nat.reduceMul, Nat.reduceLeDiff, Nat.reduceLT, Nat.reduceEqDiff, Nat.reduceBEq]
    ·
      refine callBy cb32 (c_is p2 fun v1 hv1 => ?_)
      cases v1 <;> simp (maxSteps := 4000000) only [go_sem, reduceIte, reduceCtorEq, Nat.reduceAdd, Nat.reduceSub, Nat.reduceMul, Nat.reduceLeDiff, Nat.reduceLT, Nat.reduceEqDiff, Nat.reduceBEq]
      ·
        refine callBy cb32 (c_is p2 fun v2 hv2 => ?_)
        cases v2 <;> simp (maxSteps := 4000000) only [go_sem, reduceIte, reduceCtorEq, Nat.reduceAdd, Nat.reduceSub, Nat.reduceMul, Nat.reduceLeDiff, Nat.reduceLT, Nat.reduceEqDiff, Nat.reduceBEq]
        · exact h1 _ _ _ _ _ _ _ _ _ _ _ p2 k2 m2 g4 c2 q2
        · have hv := hv2 rfl
          refine callBy cb32 (c_is p2 fun u0 _ => ?_)
          cases u0 <;> simp (maxSteps := 4000000) only [go_sem, reduceIte, reduceCtorEq, Nat.reduceAdd, Nat.reduceSub, Nat.reduceMul, Nat.reduceLeDiff, Nat.reduceLT, Nat.reduceEqDiff, Nat.reduceBEq] <;> (
            refine callBy cb32 (c_is p2 fun u1 _ => ?_)
            cases u1 <;> simp (maxSteps := 4000000) only [go_sem, reduceIte, reduceCtorEq, Nat.reduceAdd, Nat.reduceSub, Nat.reduceMul, Nat.reduceLeDiff, Nat.reduceLT, Nat.reduceEqDiff, Nat.reduceBEq] <;> (
              refine callBy cb13 (c_now p2 fun tok x1 x2 x3 => ?_)
              simp (maxSteps := 4000000) only [go_sem, reduceIte, reduceCtorEq, Nat.reduceAdd, Nat.reduceSub, Nat.reduceMul, Nat.reduceLeDiff, Nat.reduceLT, Nat.reduceEqDiff, Nat.reduceBEq, p2.wrap1]
              have p3 := p2.step (at1 := at2 + 1) (code1 := code2) (by omega) hv id
              refine callBy cb73 (ih.unary p3 (by omega) (by omega) fun r4 at4 nv4 ns4 deep4 df4 lp4 tp4 code4 pos4 L4 p4 k4 m4 t4 c4 q4 => ?_)
              simp (maxSteps := 4000000) only [go_sem, reduceIte, reduceCtorEq, Nat.reduceAdd, Nat.reduceSub, Nat.reduceMul, Nat.reduceLeDiff, Nat.reduceLT, Nat.reduceEqDiff, Nat.reduceBEq]
              intro n hn hL
              refine callBy cb16 (c_put (ks := [a, r4]) ((p4.roots (List.Perm.swap _ _ _)).grow (Grow.upd n)) (.inr ⟨some n, rfl⟩) (by omega) fun r5 nv5 ns5 L5 p5 k5 c5 => ?_)
              simp (maxSteps := 4000000) only [go_sem, reduceIte, reduceCtorEq, Nat.reduceAdd, Nat.reduceSub, Nat.reduceMul, Nat.reduceLeDiff, Nat.reduceLT, Nat.reduceEqDiff, Nat.reduceBEq]
              refine ⟨⟨r5, at4, nv5, ns5, deep4, df4, lp4, tp4, code4, pos4, L5, .nilSlice, [], false⟩, rfl, rfl, ⟨p5, k2.trans (k4.trans ((Grow.upd n).keep.trans k5)), ?_, ?_, ?_⟩, ?_⟩
              all_goals dsimp only
              · omega
              · omega
              · intro e; have := q4 e; omega
              · omega))
      · have hv := hv1 rfl
        refine callBy cb32 (c_is p2 fun u0 _ => ?_)
        cases u0 <;> simp (maxSteps := 4000000) only [go_sem, reduceIte, reduceCtorEq, Nat.reduceAdd, Nat.reduceSub, Nat.reduceMul, Nat.reduceLeDiff, Nat.reduceLT, Nat.reduceEqDiff, Nat.reduceBEq] <;> (
          refine callBy cb32 (c_is p2 fun u1 _ => ?_)
          cases u1 <;> simp (maxSteps := 4000000) only [go_sem, reduceIte, reduceCtorEq, Nat.reduceAdd, Nat.reduceSub, Nat.reduceMul, Nat.reduceLeDiff, Nat.reduceLT, Nat.reduceEqDiff, Nat.reduceBEq] <;> (
            refine callBy cb13 (c_now p2 fun tok x1 x2 x3 => ?_)
            simp (maxSteps := 4000000) only [go_sem, reduceIte, reduceCtorEq, Nat.reduceAdd, Nat.reduceSub, Nat.reduceMul, Nat.reduceLeDiff, Nat.reduceLT, Nat.reduceEqDiff, Nat.reduceBEq, p2.wrap1]
            have p3 := p2.step (at1 := at2 + 1) (code1 := code2) (by omega) hv id
            refine callBy cb73 (ih.unary p3 (by omega) (by omega) fun r4 at4 nv4 ns4 deep4 df4 lp4 tp4 code4 pos4 L4 p4 k4 m4 t4 c4 q4 => ?_)
            simp (maxSteps := 4000000) only [go_sem, reduceIte, reduceCtorEq, Nat.reduceAdd, Nat.reduceSub, Nat.reduceMul, Nat.reduceLeDiff, Nat.reduceLT, Nat.reduceEqDiff, Nat.reduceBEq]
            intro n hn hL
            refine callBy cb16 (c_put (ks := [a, r4]) ((p4.roots (List.Perm.swap _ _ _)).grow (Grow.upd n)) (.inr ⟨some n, rfl⟩) (by omega) fun r5 nv5 ns5 L5 p5 k5 c5 => ?_)
            simp (maxSteps := 4000000) only [go_sem, reduceIte, reduceCtorEq, Nat.reduceAdd, Nat.reduceSub, Nat.reduceMul, Nat.reduceLeDiff, Nat.reduceLT, Nat.reduceEqDiff, Nat.reduceBEq]
            refine ⟨⟨r5, at4, nv5, ns5, deep4, df4, lp4, tp4, code4, pos4, L5, .nilSlice, [], false⟩, rfl, rfl, ⟨p5, k2.trans (k4.trans ((Grow.upd n).keep.trans k5)), ?_, ?_, ?_⟩, ?_⟩
            all_goals dsimp only
            · omega
            · omega
            · intro e; have := q4 e; omega
            · omega))
    · have hv := hv0 rfl
      refine callBy cb32 (c_is p2 fun u0 _ => ?_)
      cases u0 <;> simp (maxSteps := 4000000) only [go_sem, reduceIte, reduceCtorEq, Nat.reduceAdd, Nat.reduceSub, Nat.reduceMul, Nat.reduceLeDiff, Nat.reduceLT, Nat.reduceEqDiff, Nat.reduceBEq] <;> (
        refine callBy cb32 (c_is p2 fun u1 _ => ?_)
        cases u1 <;> simp (maxSteps := 4000000) only [go_sem, reduceIte, reduceCtorEq, Nat.reduceAdd, Nat.reduceSub, Nat.reduceMul, Nat.reduceLeDiff, Nat.reduceLT, Nat.reduceEqDiff, Nat.reduceBEq] <;> (
          refine callBy cb13 (c_now p2 fun tok x1 x2 x3 => ?_)
          simp (maxSteps := 4000000) only [go_sem, reduceIte, reduceCtorEq, Nat.reduceAdd, Nat.reduceSub, Nat.reduceMul, Nat.reduceLeDiff, Nat.reduceLT, Nat.reduceEqDiff, Nat.reduceBEq, p2.wrap1]
          have p3 := p2.step (at1 := at2 + 1) (code1 := code2) (by omega) hv id
          refine callBy cb73 (ih.unary p3 (by omega) (by omega) fun r4 at4 nv4 ns4 deep4 df4 lp4 tp4 code4 pos4 L4 p4 k4 m4 t4 c4 q4 => ?_)
          simp (maxSteps := 4000000) only [go_sem, reduceIte, reduceCtorEq, Nat.reduceAdd, Nat.reduceSub, Nat.reduceMul, Nat.reduceLeDiff, Nat.reduceLT, Nat.reduceEqDiff, Nat.reduceBEq]
          intro n hn hL
          refine callBy cb16 (c_put (ks := [a, r4]) ((p4.roots (List.Perm.swap _ _ _)).grow (Grow.upd n)) (.inr ⟨some n, rfl⟩) (by omega) fun r5 nv5 ns5 L5 p5 k5 c5 => ?_)
          simp (maxSteps := 4000000) only [go_sem, reduceIte, reduceCtorEq, Nat.reduceAdd, Nat.reduceSub, Nat.reduceMul, Nat.reduceLeDiff, Nat.reduceLT, Nat.reduceEqDiff, Nat.reduceBEq]
          refine ⟨⟨r5, at4, nv5, ns5, deep4, df4, lp4, tp4, code4, pos4, L5, .nilSlice, [], false⟩, rfl, rfl, ⟨p5, k2.trans (k4.trans ((Grow.upd n).keep.trans k5)), ?_, ?_, ?_⟩, ?_⟩
          all_goals dsimp only
          · omega
          · omega
          · intro e; have := q4 e; omega
          · omega))
  · exact h1 _ _ _ _ _ _ _ _ _ _ _ p2 k2 m2 g4 c2 q2

end Go.Proofs.Ab5
end
