/-
  The reference scanner: a line's first token.
-/
import Derived.Test.YtdgfmdjlhkjbaaaJa
set_option linter.all false
section
set_option maxRecDepth 10000
set_option maxHeartbeats 4000000
set_option linter.unusedSimpArgs false
set_option linter.unusedVariables false
namespace Go.Proofs.Ab5
open Go.Ab Go.Proofs
variable {p : Nat} {s : ByteArray} {h : AHeap} {x : SC} {S : AVal → AHeap → Prop}

/-- The last one of a slice of ints. -/
theorem Mut.top {k : IntKind} {v : AVal} {xs : List Int} (m : Mut h p k v xs) (hne : 0 < xs.length) (hl : xs.length ≤ 1000000) : ∃ c β o r, xs[xs.length - 1]? = some c ∧ aIndexAddr 1 v ((xs.length : Int) - 1) = some (.ptr β o) ∧ (h.blk β).map (·.drop o) = some (.int k c :: r) ∧ IntKind.wrap .i64 ((xs.length : Int) - 1) = xs.length - 1 := by
  have hc : xs[xs.length - 1]? = some xs[xs.length - 1] := List.getElem?_eq_getElem (by omega)
  obtain ⟨β, o, m1, _, r, m2⟩ := m.at (i := (xs.length : Int) - 1) (by omega) (by rw [show ((xs.length : Int) - 1).toNat = xs.length - 1 by omega]; exact hc)
  exact ⟨_, β, o, r, hc, m1, m2, by rw [wrap64] <;> omega⟩

theorem head_pos {bs : List Int} (h : bs.head? = some 0) : 0 < bs.length := by cases bs <;> simp at h ⊢

theorem c_begin (hx : SX p s h x) {spaces pos : Int} (h0 : 0 ≤ spaces) (hb0 : x.bs.head? = some 0) (hlen : x.ts.length + x.bs.length ≤ 100000)
    (h1 : ∀ h' x', SX p s h' x' → x'.at' = x.at' → x'.os = x.os → x'.bs.head? = some 0 → x'.ts.length + x'.bs.length ≤ x.ts.length + x.bs.length + 2 → (∀ t ∈ x'.ts, t ∈ x.ts ∨ t.text = .empty) → S (.tuple []) h') :
    ACalls Try.prog 24 [.ptr p 0, .int .i64 spaces, .int .i64 pos] h S := by
  have hpos := head_pos hb0
  obtain ⟨top, β, o, r, t1, t2, t3, t4⟩ := hx.bks.top hpos (by omega)
  refine acalls_of Try.func24 rfl (rd_ok hMix (κ := fun t => t == 38) δ24 _ (by decide +kernel) ?_)
  simp (maxSteps := 4000000) only [go_sem, reduceIte, reduceCtorEq, Nat.reduceAdd, Nat.reduceSub, Nat.reduceMul, Nat.reduceLeDiff, Nat.reduceLT, Nat.reduceEqDiff, Nat.reduceBEq, Try.ntmps24, Try.f24, δ24, hx.blk, hx.bks.fits, hx.bks.len, t2, t3, t4]
  refine ⟨fun hgt => ⟨fun hm => ?_, fun hm => ?_⟩, fun hle => ?_⟩
  · refine callBy cb22 (c_xfail hx fun h' b' hx' _ _ => ?_)
    simp (maxSteps := 4000000) only [go_sem, reduceIte, reduceCtorEq, Nat.reduceAdd, Nat.reduceSub, Nat.reduceMul, Nat.reduceLeDiff, Nat.reduceLT, Nat.reduceEqDiff, Nat.reduceBEq]
    exact h1 _ _ hx' rfl rfl hb0 (by dsimp only; omega) (fun t ht => .inl ht)
  · intro n hn hL n2 hn2 hL2
    refine (hx.live (Grow.upd n)).pushBlock hn2 spaces (by omega) rfl (by decide) fun v' h' e1 e2 e3 e4 hx' => ?_
    simp (maxSteps := 4000000) only [go_sem, reduceIte, reduceCtorEq, Nat.reduceAdd, Nat.reduceSub, Nat.reduceMul, Nat.reduceLeDiff, Nat.reduceLT, Nat.reduceEqDiff, Nat.reduceBEq, e1, e2, e3, e4]
    refine callBy cb21 (c_xput hx' (by dsimp only; omega) fun h2 v2 hx2 => ?_)
    simp (maxSteps := 4000000) only [go_sem, reduceIte, reduceCtorEq, Nat.reduceAdd, Nat.reduceSub, Nat.reduceMul, Nat.reduceLeDiff, Nat.reduceLT, Nat.reduceEqDiff, Nat.reduceBEq]
    refine h1 _ _ hx2 rfl rfl ?_ ?_ ?_
    · dsimp only; rw [List.head?_append, hb0]; rfl
    · simp; omega
    · intro t ht
      simp only [List.mem_append, List.mem_singleton] at ht
      rcases ht with ht | rfl
      · exact .inl ht
      · exact .inr rfl
  · refine AWp.loop_st [true, true, true, false, false, false, false, false, false, false, false, false, false, false, false, false, false, false, false, false, false, false, false, false, false, false, false, false, false, false, false, false, false, false, false, false, false, false, false, false, false, false, false, false, false, false, false, false, false, false, false, false, false, false, false, false, false, false, false, false, false, false, false, false, false, false, false, false, false, false, false, false, false, false, false, false, false, false, false, false, false, false, false, false, false, false, false, false, false, false, false, false] [] (fun y : SC × AHeap => ⟨[.ptr p 0, .int .i64 spaces, .int .i64 pos, .any, .any, .any, .any, .any, .any, .any, .any, .any, .any, .any, .any, .any, .any, .any, .any, .any, .any, .any, .any, .any, .any, .any, .any, .any, .any, .any, .any, .any, .any, .any, .any, .any, .any, .any, .any, .any, .any, .any, .any, .any, .any, .any, .any, .any, .any, .any, .any, .any, .any, .any, .any, .any, .any, .any, .any, .any, .any, .any, .any, .any, .any, .any, .any, .any, .any, .any, .any, .any, .any, .any, .any, .any, .any, .any, .any, .any, .any, .any, .any, .any, .any, .any, .any, .any, .any, .any, .any, .any], []⟩) (fun y => y.2)
      (fun y => SX p s y.2 y.1 ∧ y.1.at' = x.at' ∧ y.1.os = x.os ∧ y.1.bs.head? = some 0 ∧ y.1.ts.length + y.1.bs.length ≤ x.ts.length + x.bs.length ∧ (∀ t ∈ y.1.ts, t ∈ x.ts ∨ t.text = .empty)) (fun y => y.1.bs.length) (x, h) ?_ ?_ rfl ⟨hx, rfl, rfl, hb0, Nat.le_refl _, fun t ht => .inl ht⟩ ?_
    · simp (maxSteps := 4000000) only [go_sem, reduceIte, reduceCtorEq, Nat.reduceAdd, Nat.reduceSub, Nat.reduceMul, Nat.reduceLeDiff, Nat.reduceLT, Nat.reduceEqDiff, Nat.reduceBEq]
    · simp (maxSteps := 4000000) only [go_sem, reduceIte, reduceCtorEq, Nat.reduceAdd, Nat.reduceSub, Nat.reduceMul, Nat.reduceLeDiff, Nat.reduceLT, Nat.reduceEqDiff, Nat.reduceBEq]
    rintro ⟨y, g⟩ ⟨hy, y1, y2, y3, y4, y5⟩
    dsimp only at hy y1 y2 y3 y4 y5 ⊢
    have hpos := head_pos y3
    obtain ⟨top, β, o, r, t1, t2, t3, t4⟩ := hy.bks.top hpos (by omega)
    refine rd_ok hMix (κ := fun t => t == 38) δ24 _ (by decide +kernel) ?_
    simp (maxSteps := 4000000) only [go_sem, reduceIte, reduceCtorEq, Nat.reduceAdd, Nat.reduceSub, Nat.reduceMul, Nat.reduceLeDiff, Nat.reduceLT, Nat.reduceEqDiff, Nat.reduceBEq, δ24, hy.blk, hy.bks.fits, hy.bks.len, t2, t3, t4]
    refine ⟨fun hlt => ?_, fun hge => ⟨fun hne => ?_, fun he => ?_⟩⟩
    · have hlen2 : 2 ≤ y.bs.length := by
        rcases Nat.lt_or_ge y.bs.length 2 with hl | hl
        · exfalso
          have hl1 : y.bs.length = 1 := by omega
          rw [hl1] at t1
          rw [List.head?_eq_getElem?] at y3
          rw [y3] at t1
          cases t1
          omega
        · exact hl
      obtain ⟨v', p1, p2, p3, p4, p5, p6⟩ := hy.bks.pop (by intro e; rw [e] at hpos; simp at hpos)
      change W (aSlice 1 y.bv none (some ((y.bs.length : Int) - 1))) _
      simp (maxSteps := 4000000) only [go_sem, reduceIte, reduceCtorEq, Nat.reduceAdd, Nat.reduceSub, Nat.reduceMul, Nat.reduceLeDiff, Nat.reduceLT, Nat.reduceEqDiff, Nat.reduceBEq, ↓p1, p4, p5, p6, hy.blk]
      refine callBy cb21 (c_xput (hy.setBlk p2 p3) (by dsimp only; omega) fun h2 v2 hx2 => ?_)
      simp (maxSteps := 4000000) only [go_sem, reduceIte, reduceCtorEq, Nat.reduceAdd, Nat.reduceSub, Nat.reduceMul, Nat.reduceLeDiff, Nat.reduceLT, Nat.reduceEqDiff, Nat.reduceBEq]
      refine ⟨⟨_, h2⟩, rfl, ⟨hx2, y1, y2, ?_, ?_, ?_⟩, ?_⟩
      · dsimp only
        rw [List.dropLast_eq_take, List.head?_take, if_neg (by omega)]; exact y3
      · simp; omega
      · intro t ht
        simp only [List.mem_append, List.mem_singleton] at ht
        rcases ht with ht | rfl
        · exact y5 t ht
        · exact .inr rfl
      · simp; omega
    · refine callBy cb22 (c_xfail hy fun h' b' hx' _ _ => ?_)
      simp (maxSteps := 4000000) only [go_sem, reduceIte, reduceCtorEq, Nat.reduceAdd, Nat.reduceSub, Nat.reduceMul, Nat.reduceLeDiff, Nat.reduceLT, Nat.reduceEqDiff, Nat.reduceBEq]
      exact h1 _ _ hx' y1 y2 y3 (by dsimp only; omega) y5
    · exact h1 _ _ hy y1 y2 y3 (by omega) y5
end Go.Proofs.Ab5
end
