/-
  The reference scanner: brackets and signs.
-/
import Derived.Test.YtdgfmdjlhkjbaaaJb
import Derived.Test.YtdgfmdjlhkjbaaaJc
import Derived.Test.YtdgfmdjlhkjbaaaSb
set_option linter.all false
section
set_option maxRecDepth 10000
set_option maxHeartbeats 8000000
set_option linter.unusedSimpArgs false
set_option linter.unusedVariables false
namespace Go.Proofs.Ab5
open Go.Ab Go.Proofs
variable {p : Nat} {s : ByteArray} {h : AHeap} {x : SC} {S : AVal → AHeap → Prop}

theorem c_bracket (hx : SX p s h x) {c : Int} (hlen : x.os.length ≤ 100000)
    (h1 : ∀ h' x', SX p s h' x' → x'.at' = x.at' → x'.bs = x.bs → x'.ts = x.ts → x'.os.length ≤ x.os.length + 1 → S (.tuple []) h') : ACalls Try.prog 46 [.ptr p 0, .int .u8 c] h S := by
  refine acalls_mf 77 5 Try.func46 rfl rfl (Nat.le_of_ble_eq_true rfl) (rd_ok hMix (κ := fun t => t == 29) δ46 _ (by decide +kernel) ?_)
  by_cases o1 : c = 40
  · subst o1
    simp (maxSteps := 4000000) only [go_sem, reduceIte, reduceCtorEq, Nat.reduceAdd, Nat.reduceSub, Nat.reduceMul, Nat.reduceLeDiff, Nat.reduceLT, Nat.reduceEqDiff, Nat.reduceBEq, Try.ntmps46, Try.f46, δ46, hx.blk, hx.opn.fits, hx.opn.len, Int.reduceEq]
    refine ⟨fun _ => ?_, fun _ => ?_⟩
    · refine callBy cb22 (c_xfail hx fun h' b' hx' _ _ => ?_)
      simp (maxSteps := 4000000) only [go_sem, reduceIte, reduceCtorEq, Nat.reduceAdd, Nat.reduceSub, Nat.reduceMul, Nat.reduceLeDiff, Nat.reduceLT, Nat.reduceEqDiff, Nat.reduceBEq, δ46, hx'.blk, hx'.opn.fits, hx'.opn.len]
      intro n hn hL n2 hn2 hL2
      refine (hx'.live (Grow.upd n)).pushOpen hn2 _ (by first | omega | (dsimp only; omega)) rfl (by decide) fun v' h3 e1 e2 e3 e4 hx2 => ?_
      simp (maxSteps := 4000000) only [go_sem, reduceIte, reduceCtorEq, Nat.reduceAdd, Nat.reduceSub, Nat.reduceMul, Nat.reduceLeDiff, Nat.reduceLT, Nat.reduceEqDiff, Nat.reduceBEq, e1, e2, e3, e4]
      exact h1 _ _ hx2 rfl rfl rfl (by simp)
    ·
      intro n hn hL n2 hn2 hL2
      refine (hx.live (Grow.upd n)).pushOpen hn2 _ (by first | omega | (dsimp only; omega)) rfl (by decide) fun v' h3 e1 e2 e3 e4 hx2 => ?_
      simp (maxSteps := 4000000) only [go_sem, reduceIte, reduceCtorEq, Nat.reduceAdd, Nat.reduceSub, Nat.reduceMul, Nat.reduceLeDiff, Nat.reduceLT, Nat.reduceEqDiff, Nat.reduceBEq, e1, e2, e3, e4]
      exact h1 _ _ hx2 rfl rfl rfl (by simp)
  by_cases o2 : c = 91
  · subst o2
    simp (maxSteps := 4000000) only [go_sem, reduceIte, reduceCtorEq, Nat.reduceAdd, Nat.reduceSub, Nat.reduceMul, Nat.reduceLeDiff, Nat.reduceLT, Nat.reduceEqDiff, Nat.reduceBEq, Try.ntmps46, Try.f46, δ46, hx.blk, hx.opn.fits, hx.opn.len, Int.reduceEq]
    refine ⟨fun _ => ?_, fun _ => ?_⟩
    · refine callBy cb22 (c_xfail hx fun h' b' hx' _ _ => ?_)
      simp (maxSteps := 4000000) only [go_sem, reduceIte, reduceCtorEq, Nat.reduceAdd, Nat.reduceSub, Nat.reduceMul, Nat.reduceLeDiff, Nat.reduceLT, Nat.reduceEqDiff, Nat.reduceBEq, δ46, hx'.blk, hx'.opn.fits, hx'.opn.len]
      intro n hn hL n2 hn2 hL2
      refine (hx'.live (Grow.upd n)).pushOpen hn2 _ (by first | omega | (dsimp only; omega)) rfl (by decide) fun v' h3 e1 e2 e3 e4 hx2 => ?_
      simp (maxSteps := 4000000) only [go_sem, reduceIte, reduceCtorEq, Nat.reduceAdd, Nat.reduceSub, Nat.reduceMul, Nat.reduceLeDiff, Nat.reduceLT, Nat.reduceEqDiff, Nat.reduceBEq, e1, e2, e3, e4]
      exact h1 _ _ hx2 rfl rfl rfl (by simp)
    ·
      intro n hn hL n2 hn2 hL2
      refine (hx.live (Grow.upd n)).pushOpen hn2 _ (by first | omega | (dsimp only; omega)) rfl (by decide) fun v' h3 e1 e2 e3 e4 hx2 => ?_
      simp (maxSteps := 4000000) only [go_sem, reduceIte, reduceCtorEq, Nat.reduceAdd, Nat.reduceSub, Nat.reduceMul, Nat.reduceLeDiff, Nat.reduceLT, Nat.reduceEqDiff, Nat.reduceBEq, e1, e2, e3, e4]
      exact h1 _ _ hx2 rfl rfl rfl (by simp)
  by_cases o3 : c = 123
  · subst o3
    simp (maxSteps := 4000000) only [go_sem, reduceIte, reduceCtorEq, Nat.reduceAdd, Nat.reduceSub, Nat.reduceMul, Nat.reduceLeDiff, Nat.reduceLT, Nat.reduceEqDiff, Nat.reduceBEq, Try.ntmps46, Try.f46, δ46, hx.blk, hx.opn.fits, hx.opn.len, Int.reduceEq]
    refine ⟨fun _ => ?_, fun _ => ?_⟩
    · refine callBy cb22 (c_xfail hx fun h' b' hx' _ _ => ?_)
      simp (maxSteps := 4000000) only [go_sem, reduceIte, reduceCtorEq, Nat.reduceAdd, Nat.reduceSub, Nat.reduceMul, Nat.reduceLeDiff, Nat.reduceLT, Nat.reduceEqDiff, Nat.reduceBEq, δ46, hx'.blk, hx'.opn.fits, hx'.opn.len]
      intro n hn hL n2 hn2 hL2
      refine (hx'.live (Grow.upd n)).pushOpen hn2 _ (by first | omega | (dsimp only; omega)) rfl (by decide) fun v' h3 e1 e2 e3 e4 hx2 => ?_
      simp (maxSteps := 4000000) only [go_sem, reduceIte, reduceCtorEq, Nat.reduceAdd, Nat.reduceSub, Nat.reduceMul, Nat.reduceLeDiff, Nat.reduceLT, Nat.reduceEqDiff, Nat.reduceBEq, e1, e2, e3, e4]
      exact h1 _ _ hx2 rfl rfl rfl (by simp)
    ·
      intro n hn hL n2 hn2 hL2
      refine (hx.live (Grow.upd n)).pushOpen hn2 _ (by first | omega | (dsimp only; omega)) rfl (by decide) fun v' h3 e1 e2 e3 e4 hx2 => ?_
      simp (maxSteps := 4000000) only [go_sem, reduceIte, reduceCtorEq, Nat.reduceAdd, Nat.reduceSub, Nat.reduceMul, Nat.reduceLeDiff, Nat.reduceLT, Nat.reduceEqDiff, Nat.reduceBEq, e1, e2, e3, e4]
      exact h1 _ _ hx2 rfl rfl rfl (by simp)
  by_cases q1 : c = 41
  · subst q1
    by_cases hz : (x.os.length : Int) = 0
    · simp (maxSteps := 4000000) only [go_sem, reduceIte, reduceCtorEq, Nat.reduceAdd, Nat.reduceSub, Nat.reduceMul, Nat.reduceLeDiff, Nat.reduceLT, Nat.reduceEqDiff, Nat.reduceBEq, Try.ntmps46, Try.f46, δ46, hx.blk, hx.opn.fits, hx.opn.len, Int.reduceEq, hz]
      refine callBy cb22 (c_xfail hx fun h' b' hx' _ _ => ?_)
      simp (maxSteps := 4000000) only [go_sem, reduceIte, reduceCtorEq, Nat.reduceAdd, Nat.reduceSub, Nat.reduceMul, Nat.reduceLeDiff, Nat.reduceLT, Nat.reduceEqDiff, Nat.reduceBEq]
      exact h1 _ _ hx' rfl rfl rfl (by simp)
    · obtain ⟨top, β, o, r, t1, t2, t3, t4⟩ := hx.opn.top (by omega) (by omega)
      obtain ⟨v', p1, p2, p3, p4, p5, p6⟩ := hx.opn.pop (by intro e; rw [e] at hz; exact hz rfl)
      by_cases ht : top = 40
      · subst ht
        simp (maxSteps := 4000000) only [go_sem, reduceIte, reduceCtorEq, Nat.reduceAdd, Nat.reduceSub, Nat.reduceMul, Nat.reduceLeDiff, Nat.reduceLT, Nat.reduceEqDiff, Nat.reduceBEq, Try.ntmps46, Try.f46, δ46, hx.blk, hx.opn.fits, hx.opn.len, Int.reduceEq, hz, t2, t3, t4]
        change W (aSlice 1 x.ov none (some ((x.os.length : Int) - 1))) _
        simp (maxSteps := 4000000) only [go_sem, reduceIte, reduceCtorEq, Nat.reduceAdd, Nat.reduceSub, Nat.reduceMul, Nat.reduceLeDiff, Nat.reduceLT, Nat.reduceEqDiff, Nat.reduceBEq, ↓p1, p4, p5, p6, hx.blk]
        exact h1 _ _ (hx.setOpen p2 p3) rfl rfl rfl (by simp; omega)
      · simp (maxSteps := 4000000) only [go_sem, reduceIte, reduceCtorEq, Nat.reduceAdd, Nat.reduceSub, Nat.reduceMul, Nat.reduceLeDiff, Nat.reduceLT, Nat.reduceEqDiff, Nat.reduceBEq, Try.ntmps46, Try.f46, δ46, hx.blk, hx.opn.fits, hx.opn.len, Int.reduceEq, hz, t2, t3, t4, ht]
        refine callBy cb22 (c_xfail hx fun h' b' hx' _ _ => ?_)
        simp (maxSteps := 4000000) only [go_sem, reduceIte, reduceCtorEq, Nat.reduceAdd, Nat.reduceSub, Nat.reduceMul, Nat.reduceLeDiff, Nat.reduceLT, Nat.reduceEqDiff, Nat.reduceBEq]
        exact h1 _ _ hx' rfl rfl rfl (by simp)
  by_cases q2 : c = 93
  · subst q2
    by_cases hz : (x.os.length : Int) = 0
    · simp (maxSteps := 4000000) only [go_sem, reduceIte, reduceCtorEq, Nat.reduceAdd, Nat.reduceSub, Nat.reduceMul, Nat.reduceLeDiff, Nat.reduceLT, Nat.reduceEqDiff, Nat.reduceBEq, Try.ntmps46, Try.f46, δ46, hx.blk, hx.opn.fits, hx.opn.len, Int.reduceEq, hz]
      refine callBy cb22 (c_xfail hx fun h' b' hx' _ _ => ?_)
      simp (maxSteps := 4000000) only [go_sem, reduceIte, reduceCtorEq, Nat.reduceAdd, Nat.reduceSub, Nat.reduceMul, Nat.reduceLeDiff, Nat.reduceLT, Nat.reduceEqDiff, Nat.reduceBEq]
      exact h1 _ _ hx' rfl rfl rfl (by simp)
    · obtain ⟨top, β, o, r, t1, t2, t3, t4⟩ := hx.opn.top (by omega) (by omega)
      obtain ⟨v', p1, p2, p3, p4, p5, p6⟩ := hx.opn.pop (by intro e; rw [e] at hz; exact hz rfl)
      by_cases ht : top = 91
      · subst ht
        simp (maxSteps := 4000000) only [go_sem, reduceIte, reduceCtorEq, Nat.reduceAdd, Nat.reduceSub, Nat.reduceMul, Nat.reduceLeDiff, Nat.reduceLT, Nat.reduceEqDiff, Nat.reduceBEq, Try.ntmps46, Try.f46, δ46, hx.blk, hx.opn.fits, hx.opn.len, Int.reduceEq, hz, t2, t3, t4]
        change W (aSlice 1 x.ov none (some ((x.os.length : Int) - 1))) _
        simp (maxSteps := 4000000) only [go_sem, reduceIte, reduceCtorEq, Nat.reduceAdd, Nat.reduceSub, Nat.reduceMul, Nat.reduceLeDiff, Nat.reduceLT, Nat.reduceEqDiff, Nat.reduceBEq, ↓p1, p4, p5, p6, hx.blk]
        exact h1 _ _ (hx.setOpen p2 p3) rfl rfl rfl (by simp; omega)
      · simp (maxSteps := 4000000) only [go_sem, reduceIte, reduceCtorEq, Nat.reduceAdd, Nat.reduceSub, Nat.reduceMul, Nat.reduceLeDiff, Nat.reduceLT, Nat.reduceEqDiff, Nat.reduceBEq, Try.ntmps46, Try.f46, δ46, hx.blk, hx.opn.fits, hx.opn.len, Int.reduceEq, hz, t2, t3, t4, ht]
        refine callBy cb22 (c_xfail hx fun h' b' hx' _ _ => ?_)
        simp (maxSteps := 4000000) only [go_sem, reduceIte, reduceCtorEq, Nat.reduceAdd, Nat.reduceSub, Nat.reduceMul, Nat.reduceLeDiff, Nat.reduceLT, Nat.reduceEqDiff, Nat.reduceBEq]
        exact h1 _ _ hx' rfl rfl rfl (by simp)
  by_cases q3 : c = 125
  · subst q3
    by_cases hz : (x.os.length : Int) = 0
    · simp (maxSteps := 4000000) only [go_sem, reduceIte, reduceCtorEq, Nat.reduceAdd, Nat.reduceSub, Nat.reduceMul, Nat.reduceLeDiff, Nat.reduceLT, Nat.reduceEqDiff, Nat.reduceBEq, Try.ntmps46, Try.f46, δ46, hx.blk, hx.opn.fits, hx.opn.len, Int.reduceEq, hz]
      refine callBy cb22 (c_xfail hx fun h' b' hx' _ _ => ?_)
      simp (maxSteps := 4000000) only [go_sem, reduceIte, reduceCtorEq, Nat.reduceAdd, Nat.reduceSub, Nat.reduceMul, Nat.reduceLeDiff, Nat.reduceLT, Nat.reduceEqDiff, Nat.reduceBEq]
      exact h1 _ _ hx' rfl rfl rfl (by simp)
    · obtain ⟨top, β, o, r, t1, t2, t3, t4⟩ := hx.opn.top (by omega) (by omega)
      obtain ⟨v', p1, p2, p3, p4, p5, p6⟩ := hx.opn.pop (by intro e; rw [e] at hz; exact hz rfl)
      by_cases ht : top = 123
      · subst ht
        simp (maxSteps := 4000000) only [go_sem, reduceIte, reduceCtorEq, Nat.reduceAdd, Nat.reduceSub, Nat.reduceMul, Nat.reduceLeDiff, Nat.reduceLT, Nat.reduceEqDiff, Nat.reduceBEq, Try.ntmps46, Try.f46, δ46, hx.blk, hx.opn.fits, hx.opn.len, Int.reduceEq, hz, t2, t3, t4]
        change W (aSlice 1 x.ov none (some ((x.os.length : Int) - 1))) _
        simp (maxSteps := 4000000) only [go_sem, reduceIte, reduceCtorEq, Nat.reduceAdd, Nat.reduceSub, Nat.reduceMul, Nat.reduceLeDiff, Nat.reduceLT, Nat.reduceEqDiff, Nat.reduceBEq, ↓p1, p4, p5, p6, hx.blk]
        exact h1 _ _ (hx.setOpen p2 p3) rfl rfl rfl (by simp; omega)
      · simp (maxSteps := 4000000) only [go_sem, reduceIte, reduceCtorEq, Nat.reduceAdd, Nat.reduceSub, Nat.reduceMul, Nat.reduceLeDiff, Nat.reduceLT, Nat.reduceEqDiff, Nat.reduceBEq, Try.ntmps46, Try.f46, δ46, hx.blk, hx.opn.fits, hx.opn.len, Int.reduceEq, hz, t2, t3, t4, ht]
        refine callBy cb22 (c_xfail hx fun h' b' hx' _ _ => ?_)
        simp (maxSteps := 4000000) only [go_sem, reduceIte, reduceCtorEq, Nat.reduceAdd, Nat.reduceSub, Nat.reduceMul, Nat.reduceLeDiff, Nat.reduceLT, Nat.reduceEqDiff, Nat.reduceBEq]
        exact h1 _ _ hx' rfl rfl rfl (by simp)
  simp (maxSteps := 4000000) only [go_sem, reduceIte, reduceCtorEq, Nat.reduceAdd, Nat.reduceSub, Nat.reduceMul, Nat.reduceLeDiff, Nat.reduceLT, Nat.reduceEqDiff, Nat.reduceBEq, Try.ntmps46, Try.f46, δ46, o1, o2, o3, q1, q2, q3]
  exact h1 _ _ hx rfl rfl rfl (by simp)

theorem among_x {h : AHeap} {v : AVal} {l : List ByteArray} (hv : Strs v l) (hl : l.length ≤ 4294967296) {s : ByteArray} {S : AVal → AHeap → Prop} (h1 : ∀ i : Int, -1 ≤ i → (0 ≤ i → s ∈ l) → S (.int .i64 i) h) :
    ACalls Try.prog 27 [v, .str s] h S := by
  refine acalls_of Try.func27 rfl (rd_ok hMix (κ := fun _ => false) δ0 _ rfl ?_)
  have hlen : aLen v = some (l.length : Int) := by rcases hv with ⟨rfl, rfl⟩ | ⟨ρ, rfl⟩ <;> simp [aLen]
  have hfit : fitsKind v (.slice 9) = true := by rcases hv with ⟨rfl, rfl⟩ | ⟨ρ, rfl⟩ <;> rfl
  simp (maxSteps := 4000000) only [go_sem, reduceIte, reduceCtorEq, Nat.reduceAdd, Nat.reduceSub, Nat.reduceMul, Nat.reduceLeDiff, Nat.reduceLT, Nat.reduceEqDiff, Nat.reduceBEq, Try.ntmps27, Try.f27]
  refine AWp.loop_st [true, true, false, false, false, true, false, false, false, false, false, false, false, false, false, false, false, false, false] [] (fun i : Nat => ⟨[v, .str s, .any, .any, .any, .int .i64 i, .any, .any, .any, .any, .any, .any, .any, .any, .any, .any, .any, .any, .any], []⟩) (fun _ => h) (fun i => i ≤ l.length) (fun i => l.length - i) 0 ?_ ?_ rfl (by omega) ?_
  · rcases hv with ⟨rfl, rfl⟩ | ⟨ρ, rfl⟩ <;> simp (maxSteps := 4000000) only [go_sem, reduceIte, reduceCtorEq, Nat.reduceAdd, Nat.reduceSub, Nat.reduceMul, Nat.reduceLeDiff, Nat.reduceLT, Nat.reduceEqDiff, Nat.reduceBEq]
  · simp (maxSteps := 4000000) only [go_sem, reduceIte, reduceCtorEq, Nat.reduceAdd, Nat.reduceSub, Nat.reduceMul, Nat.reduceLeDiff, Nat.reduceLT, Nat.reduceEqDiff, Nat.reduceBEq]
    rfl
  intro i hi
  refine rd_ok hMix (κ := fun _ => false) δ0 _ rfl ?_
  simp (maxSteps := 4000000) only [go_sem, reduceIte, reduceCtorEq, Nat.reduceAdd, Nat.reduceSub, Nat.reduceMul, Nat.reduceLeDiff, Nat.reduceLT, Nat.reduceEqDiff, Nat.reduceBEq, hlen, hfit]
  refine ⟨fun hlt => ?_, fun hge => h1 _ (by omega) (fun h => absurd h (by omega))⟩
  have hix : aIndexAddr 1 v (i : Int) = some (.pin [.str (l[i]'(by omega))]) := by
    rcases hv with ⟨rfl, rfl⟩ | ⟨ρ, rfl⟩
    · exact absurd hlt (by simp)
    · simp [aIndexAddr]
  simp (maxSteps := 4000000) only [go_sem, reduceIte, reduceCtorEq, Nat.reduceAdd, Nat.reduceSub, Nat.reduceMul, Nat.reduceLeDiff, Nat.reduceLT, Nat.reduceEqDiff, Nat.reduceBEq, hix]
  have hw : IntKind.wrap .i64 ((i : Int) + 1) = ((i + 1 : Nat) : Int) := by rw [wrap64] <;> omega
  refine ⟨fun he => h1 _ (by omega) (fun _ => he ▸ List.getElem_mem _), fun _ => ⟨?_, ?_⟩⟩
  · rcases hv with ⟨rfl, rfl⟩ | ⟨ρ, rfl⟩ <;> rfl
  · exact ⟨i + 1, by rw [hw], by omega, by omega⟩

theorem c_sign (hx : SX p s h x) (h0 : 0 ≤ x.at') (hlt : x.at' < s.size) (hs : s.size ≤ 1000) (hlen : x.ts.length ≤ 100000) (hos : x.os.length ≤ 100000)
    (h1 : ∀ h' x', SX p s h' x' → Adv s x x' → S (.bool true) h') (h2 : ∀ h', SX p s h' x → S (.bool false) h') : ACalls Try.prog 31 [.ptr p 0] h S := by
  refine acalls_mf 95 7 Try.func31 rfl rfl (Nat.le_of_ble_eq_true rfl) (rd_ok hMix (κ := fun _ => false) δ31 _ (by decide +kernel) ?_)
  have w1 : IntKind.wrap .i64 (x.at' + 1) = x.at' + 1 := wrapS hs (by omega) (by omega)
  have w2 : IntKind.wrap .i64 (x.at' + 2) = x.at' + 2 := wrapS hs (by omega) (by omega)
  have f1 : x.at' ≤ x.at' + 1 := by omega
  have f2 : x.at' ≤ x.at' + 2 := by omega
  have f3 : x.at' + 1 ≤ s.size := by omega
  obtain ⟨c, hc⟩ := strIndex_has (s := s) (i := x.at') h0 hlt
  by_cases hl : x.at' + 1 < s.size
  · have f4 : x.at' + 2 ≤ s.size := by omega
    simp (maxSteps := 4000000) only [go_sem, reduceIte, reduceCtorEq, Nat.reduceAdd, Nat.reduceSub, Nat.reduceMul, Nat.reduceLeDiff, Nat.reduceLT, Nat.reduceEqDiff, Nat.reduceBEq, Try.ntmps31, Try.f31, δ31, hx.blk, w1, w2, hl, h0, f2, f4]
    intro n hn hL
    refine callBy cb27 (among_x (l := [_, _, _, _, _, _]) (.inr ⟨some n, rfl⟩) (by simp) fun i i1 i2 => ?_)
    by_cases hi : 0 ≤ i
    · simp (maxSteps := 4000000) only [go_sem, reduceIte, reduceCtorEq, Nat.reduceAdd, Nat.reduceSub, Nat.reduceMul, Nat.reduceLeDiff, Nat.reduceLT, Nat.reduceEqDiff, Nat.reduceBEq, δ31, hx.blk, hi]
      refine callBy cb21 (c_xput (hx.live (Grow.upd n)) (by omega) fun h2 v2 hx2 => ?_)
      have hb2 := hx2.blk
      simp (maxSteps := 4000000) only [go_sem, reduceIte, reduceCtorEq, Nat.reduceAdd, Nat.reduceSub, Nat.reduceMul, Nat.reduceLeDiff, Nat.reduceLT, Nat.reduceEqDiff, Nat.reduceBEq, δ31, hb2, w2]
      refine h1 _ _ (hx2.set (x.at' + 2) x.line x.bad) ⟨Nat.le_succ _, rfl, by dsimp only; omega, by dsimp only; omega, fun _ => by dsimp only; omega, by simp, fun t ht => ?_⟩
      simp only [List.mem_append, List.mem_singleton] at ht
      rcases ht with ht | rfl
      · exact .inl ht
      · exact .inr (by simp only [ByteArray.size_extract]; omega)
    · simp (maxSteps := 4000000) only [go_sem, reduceIte, reduceCtorEq, Nat.reduceAdd, Nat.reduceSub, Nat.reduceMul, Nat.reduceLeDiff, Nat.reduceLT, Nat.reduceEqDiff, Nat.reduceBEq, δ31, hx.blk, hi, hc]
      have hg := hx.live (Grow.upd n)
      refine AWp.loop_mf 7 [true, false, false, false, true, true, true] [] (fun i : Nat => ⟨(mkF 95 7 [.ptr p 0, .any, .any, .any, .int .u8 c, .str { data := #[60, 62, 61, 43, 45, 42, 37, 40, 41, 91, 93, 123, 125, 44, 58, 46] }, .int .i64 i] []), []⟩) (fun _ => ⟨h.blk, upd h.live n true⟩) (fun i => i ≤ 16) (fun i => 16 - i) 0 ?_ ?_ rfl (by omega) ?_
      · simp (maxSteps := 4000000) only [go_sem, reduceIte, reduceCtorEq, Nat.reduceAdd, Nat.reduceSub, Nat.reduceMul, Nat.reduceLeDiff, Nat.reduceLT, Nat.reduceEqDiff, Nat.reduceBEq]
      · simp (maxSteps := 4000000) only [go_sem, reduceIte, reduceCtorEq, Nat.reduceAdd, Nat.reduceSub, Nat.reduceMul, Nat.reduceLeDiff, Nat.reduceLT, Nat.reduceEqDiff, Nat.reduceBEq]
        rfl
      intro i hi
      refine rd_ok hMix (κ := fun _ => false) δ31 _ (by decide +kernel) ?_
      by_cases hi2 : (i : Int) < ((16 : Nat) : Int)
      · have hw : IntKind.wrap .i64 ((i : Int) + 1) = ((i + 1 : Nat) : Int) := by rw [wrap64] <;> omega
        obtain ⟨d, hd⟩ := strIndex_some (s := { data := #[60, 62, 61, 43, 45, 42, 37, 40, 41, 91, 93, 123, 125, 44, 58, 46] }) (i := (i : Int)) (by omega) (by simpa [ByteArray.size] using hi2)
        by_cases hdc : d = c
        · subst hdc
          simp (maxSteps := 4000000) only [go_sem, reduceIte, reduceCtorEq, Nat.reduceAdd, Nat.reduceSub, Nat.reduceMul, Nat.reduceLeDiff, Nat.reduceLT, Nat.reduceEqDiff, Nat.reduceBEq, δ31, ByteArray.size, hi2, hd]
          refine callBy cb46 (c_bracket hg hos fun h' x' hx' e1 e2 e3 e4 => ?_)
          simp (maxSteps := 4000000) only [go_sem, reduceIte, reduceCtorEq, Nat.reduceAdd, Nat.reduceSub, Nat.reduceMul, Nat.reduceLeDiff, Nat.reduceLT, Nat.reduceEqDiff, Nat.reduceBEq, δ31, hx'.blk, e1, w1, h0, f1, f3]
          refine callBy cb21 (c_xput hx' (by rw [e3]; omega) fun h2 v2 hx2 => ?_)
          have hb2 := hx2.blk
          simp (maxSteps := 4000000) only [go_sem, reduceIte, reduceCtorEq, Nat.reduceAdd, Nat.reduceSub, Nat.reduceMul, Nat.reduceLeDiff, Nat.reduceLT, Nat.reduceEqDiff, Nat.reduceBEq, δ31, hb2, e1, w1]
          refine h1 _ _ (hx2.set (x.at' + 1) x'.line x'.bad) ⟨e4, e2, by dsimp only; omega, by dsimp only; omega, fun _ => by dsimp only; omega, by simp [e3], fun t ht => ?_⟩
          simp only [List.mem_append, List.mem_singleton, e3] at ht
          rcases ht with ht | rfl
          · exact .inl ht
          · exact .inr (by simp only [ByteArray.size_extract]; omega)
        · simp (maxSteps := 4000000) only [go_sem, reduceIte, reduceCtorEq, Nat.reduceAdd, Nat.reduceSub, Nat.reduceMul, Nat.reduceLeDiff, Nat.reduceLT, Nat.reduceEqDiff, Nat.reduceBEq, δ31, ByteArray.size, hi2, hd, hdc, hw]
          exact ⟨i + 1, rfl, by omega, by omega⟩
      · simp (maxSteps := 4000000) only [go_sem, reduceIte, reduceCtorEq, Nat.reduceAdd, Nat.reduceSub, Nat.reduceMul, Nat.reduceLeDiff, Nat.reduceLT, Nat.reduceEqDiff, Nat.reduceBEq, δ31, ByteArray.size, hi2]
        exact h2 _ hg
  · simp (maxSteps := 4000000) only [go_sem, reduceIte, reduceCtorEq, Nat.reduceAdd, Nat.reduceSub, Nat.reduceMul, Nat.reduceLeDiff, Nat.reduceLT, Nat.reduceEqDiff, Nat.reduceBEq, Try.ntmps31, Try.f31, δ31, hx.blk, w1, hl]
    intro n hn hL
    refine callBy cb27 (among_x (l := [_, _, _, _, _, _]) (.inr ⟨some n, rfl⟩) (by simp) fun i i1 i2 => ?_)
    by_cases hi : 0 ≤ i
    · exact absurd (i2 hi) (by simp)
    · simp (maxSteps := 4000000) only [go_sem, reduceIte, reduceCtorEq, Nat.reduceAdd, Nat.reduceSub, Nat.reduceMul, Nat.reduceLeDiff, Nat.reduceLT, Nat.reduceEqDiff, Nat.reduceBEq, δ31, hx.blk, hi, hc]
      have hg := hx.live (Grow.upd n)
      refine AWp.loop_mf 7 [true, false, false, false, true, true, true] [] (fun i : Nat => ⟨(mkF 95 7 [.ptr p 0, .any, .any, .any, .int .u8 c, .str { data := #[60, 62, 61, 43, 45, 42, 37, 40, 41, 91, 93, 123, 125, 44, 58, 46] }, .int .i64 i] []), []⟩) (fun _ => ⟨h.blk, upd h.live n true⟩) (fun i => i ≤ 16) (fun i => 16 - i) 0 ?_ ?_ rfl (by omega) ?_
      · simp (maxSteps := 4000000) only [go_sem, reduceIte, reduceCtorEq, Nat.reduceAdd, Nat.reduceSub, Nat.reduceMul, Nat.reduceLeDiff, Nat.reduceLT, Nat.reduceEqDiff, Nat.reduceBEq]
      · simp (maxSteps := 4000000) only [go_sem, reduceIte, reduceCtorEq, Nat.reduceAdd, Nat.reduceSub, Nat.reduceMul, Nat.reduceLeDiff, Nat.reduceLT, Nat.reduceEqDiff, Nat.reduceBEq]
        rfl
      intro i hi
      refine rd_ok hMix (κ := fun _ => false) δ31 _ (by decide +kernel) ?_
      by_cases hi2 : (i : Int) < ((16 : Nat) : Int)
      · have hw : IntKind.wrap .i64 ((i : Int) + 1) = ((i + 1 : Nat) : Int) := by rw [wrap64] <;> omega
        obtain ⟨d, hd⟩ := strIndex_some (s := { data := #[60, 62, 61, 43, 45, 42, 37, 40, 41, 91, 93, 123, 125, 44, 58, 46] }) (i := (i : Int)) (by omega) (by simpa [ByteArray.size] using hi2)
        by_cases hdc : d = c
        · subst hdc
          simp (maxSteps := 4000000) only [go_sem, reduceIte, reduceCtorEq, Nat.reduceAdd, Nat.reduceSub, Nat.reduceMul, Nat.reduceLeDiff, Nat.reduceLT, Nat.reduceEqDiff, Nat.reduceBEq, δ31, ByteArray.size, hi2, hd]
          refine callBy cb46 (c_bracket hg hos fun h' x' hx' e1 e2 e3 e4 => ?_)
          simp (maxSteps := 4000000) only [go_sem, reduceIte, reduceCtorEq, Nat.reduceAdd, Nat.reduceSub, Nat.reduceMul, Nat.reduceLeDiff, Nat.reduceLT, Nat.reduceEqDiff, Nat.reduceBEq, δ31, hx'.blk, e1, w1, h0, f1, f3]
          refine callBy cb21 (c_xput hx' (by rw [e3]; omega) fun h2 v2 hx2 => ?_)
          have hb2 := hx2.blk
          simp (maxSteps := 4000000) only [go_sem, reduceIte, reduceCtorEq, Nat.reduceAdd, Nat.reduceSub, Nat.reduceMul, Nat.reduceLeDiff, Nat.reduceLT, Nat.reduceEqDiff, Nat.reduceBEq, δ31, hb2, e1, w1]
          refine h1 _ _ (hx2.set (x.at' + 1) x'.line x'.bad) ⟨e4, e2, by dsimp only; omega, by dsimp only; omega, fun _ => by dsimp only; omega, by simp [e3], fun t ht => ?_⟩
          simp only [List.mem_append, List.mem_singleton, e3] at ht
          rcases ht with ht | rfl
          · exact .inl ht
          · exact .inr (by simp only [ByteArray.size_extract]; omega)
        · simp (maxSteps := 4000000) only [go_sem, reduceIte, reduceCtorEq, Nat.reduceAdd, Nat.reduceSub, Nat.reduceMul, Nat.reduceLeDiff, Nat.reduceLT, Nat.reduceEqDiff, Nat.reduceBEq, δ31, ByteArray.size, hi2, hd, hdc, hw]
          exact ⟨i + 1, rfl, by omega, by omega⟩
      · simp (maxSteps := 4000000) only [go_sem, reduceIte, reduceCtorEq, Nat.reduceAdd, Nat.reduceSub, Nat.reduceMul, Nat.reduceLeDiff, Nat.reduceLT, Nat.reduceEqDiff, Nat.reduceBEq, δ31, ByteArray.size, hi2]
        exact h2 _ hg
end Go.Proofs.Ab5
end
