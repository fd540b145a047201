/-
  The reference scanner: numbers.
-/
import Derived.Test.YtdgfmdjlhkjbaaaJa
set_option linter.all false
section
set_option maxRecDepth 10000
set_option maxHeartbeats 4000000
set_option linter.unusedSimpArgs false
set_option linter.unusedVariables false
namespace Go.Proofs.Ab5
open Go.Ab Go.Proofs
variable {p : Nat} {s : ByteArray} {h : AHeap} {x : SC} {S : AVal → AHeap → Prop}

/-- What a step of the scanner does. -/
structure Adv (s : ByteArray) (x x' : SC) : Prop where
  os : x'.os.length ≤ x.os.length + 1
  bs : x'.bs = x.bs
  at0 : x.at' ≤ x'.at'
  at1 : x'.at' ≤ s.size
  go : x'.bad < 0 → x.at' < x'.at'
  ts : x'.ts.length ≤ x.ts.length + 1
  txt : ∀ t ∈ x'.ts, t ∈ x.ts ∨ t.text.size ≤ 1000

theorem strIndex_has {s : ByteArray} {i : Int} (h0 : 0 ≤ i) (h1 : i < s.size) : ∃ c : Int, aStrIndex s i = some (.int .u8 c) := strIndex_some h0 h1

theorem wrapS {s : ByteArray} (hs : s.size ≤ 1000) {a : Int} (h0 : -1000 ≤ a) (h1 : a ≤ s.size + 1000) : IntKind.wrap .i64 a = a := by rw [wrap64] <;> omega

theorem c_number (hx : SX p s h x) (h0 : 0 ≤ x.at') (hlt : x.at' < s.size) {c : Int} (hc : aStrIndex s x.at' = some (.int .u8 c)) (hd : digB c = true) (hs : s.size ≤ 1000) (hlen : x.ts.length ≤ 100000)
    (h1 : ∀ h' x', SX p s h' x' → Adv s x x' → S (.tuple []) h') : ACalls Try.prog 29 [.ptr p 0] h S := by
  refine acalls_of Try.func29 rfl (rd_ok hMix (κ := fun _ => false) δ29 _ (by decide +kernel) ?_)
  simp (maxSteps := 4000000) only [go_sem, reduceIte, reduceCtorEq, Nat.reduceAdd, Nat.reduceSub, Nat.reduceMul, Nat.reduceLeDiff, Nat.reduceLT, Nat.reduceEqDiff, Nat.reduceBEq, Try.ntmps29, Try.f29, δ29, hx.blk]
  refine AWp.loop_st [true, false, true, false, false, false, false, false, false, false, false, false, false, false, false, false, false, false, false, false, false, false, false, false, false, false, false, false, false, false, false, false, false, false, false, false, false, false, false, false, false, false, false, false, false, false, false, false, false, false, false, false, false, false, false, false, false, false, false, false, false, false, false, false, false, false, false, false, false, false, false, false, false, false, false, false, false, false, false, false, false, false, false, false, false, false, false, false, false, false, false, false, false, false, false, false, false, false, false, false, false] [] (fun y : Int × AHeap => ⟨[.ptr p 0, .any, .int .i64 x.at', .any, .any, .any, .any, .any, .any, .any, .any, .any, .any, .any, .any, .any, .any, .any, .any, .any, .any, .any, .any, .any, .any, .any, .any, .any, .any, .any, .any, .any, .any, .any, .any, .any, .any, .any, .any, .any, .any, .any, .any, .any, .any, .any, .any, .any, .any, .any, .any, .any, .any, .any, .any, .any, .any, .any, .any, .any, .any, .any, .any, .any, .any, .any, .any, .any, .any, .any, .any, .any, .any, .any, .any, .any, .any, .any, .any, .any, .any, .any, .any, .any, .any, .any, .any, .any, .any, .any, .any, .any, .any, .any, .any, .any, .any, .any, .any, .any, .any], []⟩) (fun y => y.2)
    (fun y => SX p s y.2 { x with at' := y.1 } ∧ x.at' ≤ y.1 ∧ y.1 ≤ s.size) (fun y => (s.size - y.1).toNat) (x.at', h) ?_ ?_ rfl ⟨hx, Int.le_refl _, by dsimp only; omega⟩ ?_
  · simp (maxSteps := 4000000) only [go_sem, reduceIte, reduceCtorEq, Nat.reduceAdd, Nat.reduceSub, Nat.reduceMul, Nat.reduceLeDiff, Nat.reduceLT, Nat.reduceEqDiff, Nat.reduceBEq]
  · simp (maxSteps := 4000000) only [go_sem, reduceIte, reduceCtorEq, Nat.reduceAdd, Nat.reduceSub, Nat.reduceMul, Nat.reduceLeDiff, Nat.reduceLT, Nat.reduceEqDiff, Nat.reduceBEq]
  rintro ⟨a, g⟩ ⟨hy, y1, y2⟩
  dsimp only at hy y1 y2 ⊢
  have fin : ∀ (g' : AHeap) (b' : Int), SX p s g' { x with at' := a, bad := b' } → x.at' < a → ∀ h' v', SX p s h' { x with at' := a, bad := b', outv := v', ts := x.ts ++ [⟨2, s.extract x.at'.toNat a.toNat, x.at'⟩] } → S (.tuple []) h' := fun g' b' hg ha h' v' hh =>
    h1 _ _ hh ⟨by dsimp only; omega, rfl, by dsimp only; omega, y2, fun _ => ha, by simp, fun t ht => by
      simp only [List.mem_append, List.mem_singleton] at ht
      rcases ht with ht | rfl
      · exact .inl ht
      · refine .inr ?_
        simp only [ByteArray.size_extract]; omega⟩
  refine rd_ok hMix (κ := fun _ => false) δ29 _ (by decide +kernel) ?_
  have w1 : IntKind.wrap .i64 (a + 1) = a + 1 := wrapS hs (by omega) (by omega)
  have w2 : IntKind.wrap .i64 (a - x.at') = a - x.at' := wrapS hs (by omega) (by omega)
  obtain ⟨z, hz⟩ := strIndex_has (s := s) (i := x.at') (by omega) hlt
  simp (maxSteps := 4000000) only [go_sem, reduceIte, reduceCtorEq, Nat.reduceAdd, Nat.reduceSub, Nat.reduceMul, Nat.reduceLeDiff, Nat.reduceLT, Nat.reduceEqDiff, Nat.reduceBEq, δ29, hy.blk]
  refine ⟨fun ha => ?_, fun ha => ?_⟩
  · obtain ⟨d, hd'⟩ := strIndex_has (s := s) (i := a) (by omega) ha
    simp (maxSteps := 4000000) only [go_sem, reduceIte, reduceCtorEq, Nat.reduceAdd, Nat.reduceSub, Nat.reduceMul, Nat.reduceLeDiff, Nat.reduceLT, Nat.reduceEqDiff, Nat.reduceBEq, hd']
    refine callBy cb26 (c_digit ?_)
    cases hdd : digB d <;> simp (maxSteps := 4000000) only [go_sem, reduceIte, reduceCtorEq, Nat.reduceAdd, Nat.reduceSub, Nat.reduceMul, Nat.reduceLeDiff, Nat.reduceLT, Nat.reduceEqDiff, Nat.reduceBEq, δ29, hy.blk, ha, hd', w1, w2, hz]
    · have hxa : x.at' < a := by
        rcases Int.lt_or_eq_of_le y1 with e | e
        · exact e
        · exfalso
          rw [← e, hc] at hd'
          cases hd'
          rw [hd] at hdd; cases hdd
      refine callBy cb25 (c_letter ?_)
      cases letB d <;> simp (maxSteps := 4000000) only [go_sem, reduceIte, reduceCtorEq, Nat.reduceAdd, Nat.reduceSub, Nat.reduceMul, Nat.reduceLeDiff, Nat.reduceLT, Nat.reduceEqDiff, Nat.reduceBEq, δ29, hy.blk, hz, w2]
      ·
        refine ⟨fun _ => ?_, fun _ => ⟨fun _ => ⟨fun _ => ?_, fun _ => ?_⟩, fun _ => ?_⟩⟩
        ·
          refine callBy cb22 (c_xfail hy fun h' b' hx' _ _ => ?_)
          simp (maxSteps := 4000000) only [go_sem, reduceIte, reduceCtorEq, Nat.reduceAdd, Nat.reduceSub, Nat.reduceMul, Nat.reduceLeDiff, Nat.reduceLT, Nat.reduceEqDiff, Nat.reduceBEq, δ29, hx'.blk]
          refine ⟨⟨h0, y1, y2⟩, ?_⟩
          refine callBy cb21 (c_xput hx' (by dsimp only; omega) fun h2 v2 hx2 => ?_)
          simp (maxSteps := 4000000) only [go_sem, reduceIte, reduceCtorEq, Nat.reduceAdd, Nat.reduceSub, Nat.reduceMul, Nat.reduceLeDiff, Nat.reduceLT, Nat.reduceEqDiff, Nat.reduceBEq]
          exact fin _ _ hx' hxa _ _ hx2
        ·
          refine callBy cb22 (c_xfail hy fun h' b' hx' _ _ => ?_)
          simp (maxSteps := 4000000) only [go_sem, reduceIte, reduceCtorEq, Nat.reduceAdd, Nat.reduceSub, Nat.reduceMul, Nat.reduceLeDiff, Nat.reduceLT, Nat.reduceEqDiff, Nat.reduceBEq, δ29, hx'.blk]
          refine ⟨⟨h0, y1, y2⟩, ?_⟩
          refine callBy cb21 (c_xput hx' (by dsimp only; omega) fun h2 v2 hx2 => ?_)
          simp (maxSteps := 4000000) only [go_sem, reduceIte, reduceCtorEq, Nat.reduceAdd, Nat.reduceSub, Nat.reduceMul, Nat.reduceLeDiff, Nat.reduceLT, Nat.reduceEqDiff, Nat.reduceBEq]
          exact fin _ _ hx' hxa _ _ hx2
        ·
          refine ⟨⟨h0, y1, y2⟩, ?_⟩
          refine callBy cb21 (c_xput hy (by dsimp only; omega) fun h2 v2 hx2 => ?_)
          simp (maxSteps := 4000000) only [go_sem, reduceIte, reduceCtorEq, Nat.reduceAdd, Nat.reduceSub, Nat.reduceMul, Nat.reduceLeDiff, Nat.reduceLT, Nat.reduceEqDiff, Nat.reduceBEq]
          exact fin _ x.bad hy hxa _ _ hx2
        ·
          refine ⟨⟨h0, y1, y2⟩, ?_⟩
          refine callBy cb21 (c_xput hy (by dsimp only; omega) fun h2 v2 hx2 => ?_)
          simp (maxSteps := 4000000) only [go_sem, reduceIte, reduceCtorEq, Nat.reduceAdd, Nat.reduceSub, Nat.reduceMul, Nat.reduceLeDiff, Nat.reduceLT, Nat.reduceEqDiff, Nat.reduceBEq]
          exact fin _ x.bad hy hxa _ _ hx2
      ·
        refine callBy cb22 (c_xfail hy fun h' b' hx' _ _ => ?_)
        simp (maxSteps := 4000000) only [go_sem, reduceIte, reduceCtorEq, Nat.reduceAdd, Nat.reduceSub, Nat.reduceMul, Nat.reduceLeDiff, Nat.reduceLT, Nat.reduceEqDiff, Nat.reduceBEq, δ29, hx'.blk]
        refine ⟨⟨h0, y1, y2⟩, ?_⟩
        refine callBy cb21 (c_xput hx' (by dsimp only; omega) fun h2 v2 hx2 => ?_)
        simp (maxSteps := 4000000) only [go_sem, reduceIte, reduceCtorEq, Nat.reduceAdd, Nat.reduceSub, Nat.reduceMul, Nat.reduceLeDiff, Nat.reduceLT, Nat.reduceEqDiff, Nat.reduceBEq]
        exact fin _ _ hx' hxa _ _ hx2
    · refine ⟨⟨a + 1, _⟩, rfl, ⟨hy.set (a + 1) x.line x.bad, by dsimp only; omega, by dsimp only; omega⟩, by dsimp only; omega⟩
  · have hxa : x.at' < a := by omega
    simp (maxSteps := 4000000) only [go_sem, reduceIte, reduceCtorEq, Nat.reduceAdd, Nat.reduceSub, Nat.reduceMul, Nat.reduceLeDiff, Nat.reduceLT, Nat.reduceEqDiff, Nat.reduceBEq, δ29, hy.blk, ha, w2, hz]
    refine ⟨fun _ => ?_, fun _ => ⟨fun _ => ⟨fun _ => ?_, fun _ => ?_⟩, fun _ => ?_⟩⟩
    ·
      refine callBy cb22 (c_xfail hy fun h' b' hx' _ _ => ?_)
      simp (maxSteps := 4000000) only [go_sem, reduceIte, reduceCtorEq, Nat.reduceAdd, Nat.reduceSub, Nat.reduceMul, Nat.reduceLeDiff, Nat.reduceLT, Nat.reduceEqDiff, Nat.reduceBEq, δ29, hx'.blk]
      refine ⟨⟨h0, y1, y2⟩, ?_⟩
      refine callBy cb21 (c_xput hx' (by dsimp only; omega) fun h2 v2 hx2 => ?_)
      simp (maxSteps := 4000000) only [go_sem, reduceIte, reduceCtorEq, Nat.reduceAdd, Nat.reduceSub, Nat.reduceMul, Nat.reduceLeDiff, Nat.reduceLT, Nat.reduceEqDiff, Nat.reduceBEq]
      exact fin _ _ hx' hxa _ _ hx2
    ·
      refine callBy cb22 (c_xfail hy fun h' b' hx' _ _ => ?_)
      simp (maxSteps := 4000000) only [go_sem, reduceIte, reduceCtorEq, Nat.reduceAdd, Nat.reduceSub, Nat.reduceMul, Nat.reduceLeDiff, Nat.reduceLT, Nat.reduceEqDiff, Nat.reduceBEq, δ29, hx'.blk]
      refine ⟨⟨h0, y1, y2⟩, ?_⟩
      refine callBy cb21 (c_xput hx' (by dsimp only; omega) fun h2 v2 hx2 => ?_)
      simp (maxSteps := 4000000) only [go_sem, reduceIte, reduceCtorEq, Nat.reduceAdd, Nat.reduceSub, Nat.reduceMul, Nat.reduceLeDiff, Nat.reduceLT, Nat.reduceEqDiff, Nat.reduceBEq]
      exact fin _ _ hx' hxa _ _ hx2
    ·
      refine ⟨⟨h0, y1, y2⟩, ?_⟩
      refine callBy cb21 (c_xput hy (by dsimp only; omega) fun h2 v2 hx2 => ?_)
      simp (maxSteps := 4000000) only [go_sem, reduceIte, reduceCtorEq, Nat.reduceAdd, Nat.reduceSub, Nat.reduceMul, Nat.reduceLeDiff, Nat.reduceLT, Nat.reduceEqDiff, Nat.reduceBEq]
      exact fin _ x.bad hy hxa _ _ hx2
    ·
      refine ⟨⟨h0, y1, y2⟩, ?_⟩
      refine callBy cb21 (c_xput hy (by dsimp only; omega) fun h2 v2 hx2 => ?_)
      simp (maxSteps := 4000000) only [go_sem, reduceIte, reduceCtorEq, Nat.reduceAdd, Nat.reduceSub, Nat.reduceMul, Nat.reduceLeDiff, Nat.reduceLT, Nat.reduceEqDiff, Nat.reduceBEq]
      exact fin _ x.bad hy hxa _ _ hx2
end Go.Proofs.Ab5
end
