/-
  The reference scanner: strings.
-/
import Derived.Test.YtdgfmdjlhkjbaaaJc
import Derived.Test.YtdgfmdjlhkjbaaaDb
import Derived.Test.YtdgfmdjlhkjbaaaSb
set_option linter.all false
section
set_option maxRecDepth 10000
set_option maxHeartbeats 8000000
set_option linter.unusedSimpArgs false
set_option linter.unusedVariables false
namespace Go.Proofs.Ab5
open Go.Ab Go.Proofs
variable {p : Nat} {s : ByteArray} {h : AHeap} {x : SC} {S : AVal → AHeap → Prop}

def bcells (l : List Int) : List (List AVal) := l.map fun n => [.int .u8 n]

theorem GAcc.loc {L : Nat → Bool} {nv v : AVal} {xs : List (List AVal)} (a : GAcc L nv v xs) : v.isLoc = false := by
  rcases a.val with ⟨rfl, _⟩ | ⟨ρ, rfl⟩ <;> rfl
theorem aBytes_bcells (l : List Int) : aBytes (bcells l) = some (l.map fun n => UInt8.ofNat n.toNat) := by
  induction l with
  | nil => rfl
  | cons n l ih => simp only [bcells, List.map_cons, aBytes] at ih ⊢; rw [ih]; rfl

theorem SX.rows (hx : SX p s h x) {L1 : Nat → Bool} (hr : ∀ ρ, rowOf x.outv = some ρ → h.live ρ = true → L1 ρ = true) : SX p s ⟨h.blk, L1⟩ x :=
  ⟨hx.blk, hx.opn.frame fun _ _ => rfl, hx.bks.frame fun _ _ => rfl, hx.apart, hx.out.imp id fun ⟨ρ, h1, h2⟩ => ⟨ρ, h1, hr ρ (by rw [h1]; rfl) h2⟩⟩
theorem SX.own (hx : SX p s h x) : Own h.live x.outv := by
  intro ρ hρ
  rcases hx.out with ⟨e, _⟩ | ⟨ρ', e, hl⟩
  · rw [e] at hρ; cases hρ
  · rw [e] at hρ; cases hρ; exact hl

theorem c_str (hx : SX p s h x) (h0 : 0 ≤ x.at') (hlt : x.at' < s.size) {c : Int} (hc : aStrIndex s x.at' = some (.int .u8 c)) (hq : c ≠ 10) (hs : s.size ≤ 1000) (hlen : x.ts.length ≤ 100000)
    (h1 : ∀ h' x', SX p s h' x' → Adv s x x' → S (.tuple []) h') : ACalls Try.prog 30 [.ptr p 0] h S := by
  refine acalls_mf 270 8 Try.func30 rfl rfl (Nat.le_of_ble_eq_true rfl) (rd_ok hMix (κ := fun _ => false) δ30 _ (by decide +kernel) ?_)
  have w0 : IntKind.wrap .i64 (x.at' + 1) = x.at' + 1 := wrapS hs (by omega) (by omega)
  simp (maxSteps := 4000000) only [go_sem, reduceIte, reduceCtorEq, Nat.reduceAdd, Nat.reduceSub, Nat.reduceMul, Nat.reduceLeDiff, Nat.reduceLT, Nat.reduceEqDiff, Nat.reduceBEq, Try.ntmps30, Try.f30, δ30, hx.blk, hc, w0]
  refine AWp.loop_mf 8 [true, false, true, true, true, false, false, false] [] (fun y : Int × AHeap => ⟨(mkF 270 8 [.ptr p 0, .any, .int .i64 x.at', .int .u8 c, .int .i64 y.1, .any, .any, .any] []), []⟩) (fun y => y.2)
    (fun y => SX p s y.2 { x with at' := x.at' + 1 } ∧ x.at' + 1 ≤ y.1 ∧ y.1 ≤ s.size) (fun y => (s.size - y.1).toNat) (x.at' + 1, _) ?_ ?_ rfl ⟨hx.set (x.at' + 1) x.line x.bad, Int.le_refl _, by dsimp only; omega⟩ ?_
  · simp (maxSteps := 4000000) only [go_sem, reduceIte, reduceCtorEq, Nat.reduceAdd, Nat.reduceSub, Nat.reduceMul, Nat.reduceLeDiff, Nat.reduceLT, Nat.reduceEqDiff, Nat.reduceBEq]
  · simp (maxSteps := 4000000) only [go_sem, reduceIte, reduceCtorEq, Nat.reduceAdd, Nat.reduceSub, Nat.reduceMul, Nat.reduceLeDiff, Nat.reduceLT, Nat.reduceEqDiff, Nat.reduceBEq]
  rintro ⟨e, g⟩ ⟨hy, y1, y2⟩
  dsimp only at hy y1 y2 ⊢
  refine rd_ok hMix (κ := fun _ => false) δ30 _ (by decide +kernel) ?_
  by_cases he : e < s.size
  · have w1 : IntKind.wrap .i64 (e + 1) = e + 1 := wrapS hs (by omega) (by omega)
    have w2 : IntKind.wrap .i64 (e + 1 + 1) = e + 1 + 1 ∨ ¬ e + 1 < s.size := by
      by_cases h : e + 1 < s.size
      · exact .inl (wrapS hs (by omega) (by omega))
      · exact .inr h
    have hle : ¬ (s.size : Int) ≤ e := by omega
    obtain ⟨d, hd⟩ := strIndex_has (s := s) (i := e) (by omega) he
    by_cases hdc : d = c
    · subst hdc
      simp (maxSteps := 4000000) only [go_sem, reduceIte, reduceCtorEq, Nat.reduceAdd, Nat.reduceSub, Nat.reduceMul, Nat.reduceLeDiff, Nat.reduceLT, Nat.reduceEqDiff, Nat.reduceBEq, δ30, hy.blk, hd, he, hq, hle]
      refine AWp.loop_mf 8 [true, false, true, false, true, true, false, false] [] (fun y : Int × AVal × List Int × AHeap => ⟨(mkF 270 8 [.ptr p 0, .any, .int .i64 x.at', .any, .int .i64 e, y.2.1, .any, .any] []), []⟩) (fun y => y.2.2.2)
        (fun y => SX p s y.2.2.2 { x with at' := y.1 } ∧ GAcc y.2.2.2.live x.outv y.2.1 (bcells y.2.2.1) ∧ x.at' + 1 ≤ y.1 ∧ y.1 ≤ e + 1 ∧ (y.2.2.1.length : Int) + x.at' + 1 ≤ y.1) (fun y => (s.size + 1 - y.1).toNat) (x.at' + 1, .nilSlice, [], g) ?_ ?_ rfl ⟨hy, GAcc.nil _ _, Int.le_refl _, by dsimp only; omega, by dsimp only [List.length_nil]; omega⟩ ?_
      · simp (maxSteps := 4000000) only [go_sem, reduceIte, reduceCtorEq, Nat.reduceAdd, Nat.reduceSub, Nat.reduceMul, Nat.reduceLeDiff, Nat.reduceLT, Nat.reduceEqDiff, Nat.reduceBEq]
      · simp (maxSteps := 4000000) only [go_sem, reduceIte, reduceCtorEq, Nat.reduceAdd, Nat.reduceSub, Nat.reduceMul, Nat.reduceLeDiff, Nat.reduceLT, Nat.reduceEqDiff, Nat.reduceBEq]
      clear hy
      rintro ⟨a, bv, bs, g⟩ ⟨hy, hb, z1, z2, z3⟩
      dsimp only at hy hb z1 z2 z3 ⊢
      refine rd_ok hMix (κ := fun _ => false) δ30 _ (by decide +kernel) ?_
      by_cases ha : a < e
      · obtain ⟨f, hf⟩ := strIndex_has (s := s) (i := a) (by omega) (by omega)
        have v1 : IntKind.wrap .i64 (a + 1) = a + 1 := wrapS hs (by omega) (by omega)
        have v2 : IntKind.wrap .i64 (a + 2) = a + 2 := wrapS hs (by omega) (by omega)
        have v3 : IntKind.wrap .i64 (a + 3) = a + 3 := wrapS hs (by omega) (by omega)
        have v4 : IntKind.wrap .i64 (a + 4) = a + 4 := wrapS hs (by omega) (by omega)
        obtain ⟨u, hu⟩ := strIndex_has (s := s) (i := a + 1) (by omega) (by omega)
        by_cases b1 : f < 32
        · simp (maxSteps := 4000000) only [go_sem, reduceIte, reduceCtorEq, Nat.reduceAdd, Nat.reduceSub, Nat.reduceMul, Nat.reduceLeDiff, Nat.reduceLT, Nat.reduceEqDiff, Nat.reduceBEq, δ30, hy.blk, ha, hf, b1]
          refine callBy cb22 (c_xfail hy fun h' b' hx' c1 c2 => ?_)
          simp (maxSteps := 4000000) only [go_sem, reduceIte, reduceCtorEq, Nat.reduceAdd, Nat.reduceSub, Nat.reduceMul, Nat.reduceLeDiff, Nat.reduceLT, Nat.reduceEqDiff, Nat.reduceBEq]
          exact h1 _ _ hx' ⟨Nat.le_succ _, rfl, by dsimp only; omega, by dsimp only; omega, by dsimp only at c1 c2 ⊢; omega, Nat.le_succ _, fun t ht => .inl ht⟩
        by_cases b2 : f = 127
        · subst b2
          simp (maxSteps := 4000000) only [go_sem, reduceIte, reduceCtorEq, Nat.reduceAdd, Nat.reduceSub, Nat.reduceMul, Nat.reduceLeDiff, Nat.reduceLT, Nat.reduceEqDiff, Nat.reduceBEq, δ30, hy.blk, ha, hf, Int.reduceLT, Int.reduceEq]
          refine callBy cb22 (c_xfail hy fun h' b' hx' c1 c2 => ?_)
          simp (maxSteps := 4000000) only [go_sem, reduceIte, reduceCtorEq, Nat.reduceAdd, Nat.reduceSub, Nat.reduceMul, Nat.reduceLeDiff, Nat.reduceLT, Nat.reduceEqDiff, Nat.reduceBEq]
          exact h1 _ _ hx' ⟨Nat.le_succ _, rfl, by dsimp only; omega, by dsimp only; omega, by dsimp only at c1 c2 ⊢; omega, Nat.le_succ _, fun t ht => .inl ht⟩
        by_cases b3 : f = 92
        · subst b3
          by_cases c1 : u = 110
          · subst c1
            simp (maxSteps := 4000000) only [go_sem, reduceIte, reduceCtorEq, Nat.reduceAdd, Nat.reduceSub, Nat.reduceMul, Nat.reduceLeDiff, Nat.reduceLT, Nat.reduceEqDiff, Nat.reduceBEq, δ30, hy.blk, ha, hf, v1, hu, Int.reduceLT, Int.reduceEq]
            intro n hn hL n2 hn2 hL2
            refine append_g (b := g.blk) (L := upd g.live n true) (hb.grow (Grow.upd n)) (hy.live (Grow.upd n)).own hL2 [.int .u8 10] (by simp [bcells]; omega) rfl (by decide) fun av L4 b4 k4 => ?_
            have hy4 := (hy.live (Grow.upd n)).rows (L1 := L4) fun ρ e hl => (k4 ρ hl (fun e' => hb.ne ρ e' e)).1
            simp (maxSteps := 4000000) only [go_sem, reduceIte, reduceCtorEq, Nat.reduceAdd, Nat.reduceSub, Nat.reduceMul, Nat.reduceLeDiff, Nat.reduceLT, Nat.reduceEqDiff, Nat.reduceBEq, hy.blk, b4.loc, v2]
            refine ⟨⟨a + 2, _, bs ++ [_], _⟩, rfl, rfl, ⟨hy4.set (a + 2) x.line x.bad, by simpa [bcells] using b4, by omega, by omega, by simp; omega⟩, by omega⟩
          by_cases c2 : u = 116
          · subst c2
            simp (maxSteps := 4000000) only [go_sem, reduceIte, reduceCtorEq, Nat.reduceAdd, Nat.reduceSub, Nat.reduceMul, Nat.reduceLeDiff, Nat.reduceLT, Nat.reduceEqDiff, Nat.reduceBEq, δ30, hy.blk, ha, hf, v1, hu, Int.reduceLT, Int.reduceEq]
            intro n hn hL n2 hn2 hL2
            refine append_g (b := g.blk) (L := upd g.live n true) (hb.grow (Grow.upd n)) (hy.live (Grow.upd n)).own hL2 [.int .u8 9] (by simp [bcells]; omega) rfl (by decide) fun av L4 b4 k4 => ?_
            have hy4 := (hy.live (Grow.upd n)).rows (L1 := L4) fun ρ e hl => (k4 ρ hl (fun e' => hb.ne ρ e' e)).1
            simp (maxSteps := 4000000) only [go_sem, reduceIte, reduceCtorEq, Nat.reduceAdd, Nat.reduceSub, Nat.reduceMul, Nat.reduceLeDiff, Nat.reduceLT, Nat.reduceEqDiff, Nat.reduceBEq, hy.blk, b4.loc, v2]
            refine ⟨⟨a + 2, _, bs ++ [_], _⟩, rfl, rfl, ⟨hy4.set (a + 2) x.line x.bad, by simpa [bcells] using b4, by omega, by omega, by simp; omega⟩, by omega⟩
          by_cases c3 : u = 92
          · subst c3
            simp (maxSteps := 4000000) only [go_sem, reduceIte, reduceCtorEq, Nat.reduceAdd, Nat.reduceSub, Nat.reduceMul, Nat.reduceLeDiff, Nat.reduceLT, Nat.reduceEqDiff, Nat.reduceBEq, δ30, hy.blk, ha, hf, v1, hu, Int.reduceLT, Int.reduceEq]
            intro n hn hL n2 hn2 hL2
            refine append_g (b := g.blk) (L := upd g.live n true) (hb.grow (Grow.upd n)) (hy.live (Grow.upd n)).own hL2 [.int .u8 92] (by simp [bcells]; omega) rfl (by decide) fun av L4 b4 k4 => ?_
            have hy4 := (hy.live (Grow.upd n)).rows (L1 := L4) fun ρ e hl => (k4 ρ hl (fun e' => hb.ne ρ e' e)).1
            simp (maxSteps := 4000000) only [go_sem, reduceIte, reduceCtorEq, Nat.reduceAdd, Nat.reduceSub, Nat.reduceMul, Nat.reduceLeDiff, Nat.reduceLT, Nat.reduceEqDiff, Nat.reduceBEq, hy.blk, b4.loc, v2]
            refine ⟨⟨a + 2, _, bs ++ [_], _⟩, rfl, rfl, ⟨hy4.set (a + 2) x.line x.bad, by simpa [bcells] using b4, by omega, by omega, by simp; omega⟩, by omega⟩
          by_cases c4 : u = 34
          · subst c4
            simp (maxSteps := 4000000) only [go_sem, reduceIte, reduceCtorEq, Nat.reduceAdd, Nat.reduceSub, Nat.reduceMul, Nat.reduceLeDiff, Nat.reduceLT, Nat.reduceEqDiff, Nat.reduceBEq, δ30, hy.blk, ha, hf, v1, hu, Int.reduceLT, Int.reduceEq]
            intro n hn hL n2 hn2 hL2
            refine append_g (b := g.blk) (L := upd g.live n true) (hb.grow (Grow.upd n)) (hy.live (Grow.upd n)).own hL2 [.int .u8 34] (by simp [bcells]; omega) rfl (by decide) fun av L4 b4 k4 => ?_
            have hy4 := (hy.live (Grow.upd n)).rows (L1 := L4) fun ρ e hl => (k4 ρ hl (fun e' => hb.ne ρ e' e)).1
            simp (maxSteps := 4000000) only [go_sem, reduceIte, reduceCtorEq, Nat.reduceAdd, Nat.reduceSub, Nat.reduceMul, Nat.reduceLeDiff, Nat.reduceLT, Nat.reduceEqDiff, Nat.reduceBEq, hy.blk, b4.loc, v2]
            refine ⟨⟨a + 2, _, bs ++ [_], _⟩, rfl, rfl, ⟨hy4.set (a + 2) x.line x.bad, by simpa [bcells] using b4, by omega, by omega, by simp; omega⟩, by omega⟩
          by_cases c5 : u = 39
          · subst c5
            simp (maxSteps := 4000000) only [go_sem, reduceIte, reduceCtorEq, Nat.reduceAdd, Nat.reduceSub, Nat.reduceMul, Nat.reduceLeDiff, Nat.reduceLT, Nat.reduceEqDiff, Nat.reduceBEq, δ30, hy.blk, ha, hf, v1, hu, Int.reduceLT, Int.reduceEq]
            intro n hn hL n2 hn2 hL2
            refine append_g (b := g.blk) (L := upd g.live n true) (hb.grow (Grow.upd n)) (hy.live (Grow.upd n)).own hL2 [.int .u8 39] (by simp [bcells]; omega) rfl (by decide) fun av L4 b4 k4 => ?_
            have hy4 := (hy.live (Grow.upd n)).rows (L1 := L4) fun ρ e hl => (k4 ρ hl (fun e' => hb.ne ρ e' e)).1
            simp (maxSteps := 4000000) only [go_sem, reduceIte, reduceCtorEq, Nat.reduceAdd, Nat.reduceSub, Nat.reduceMul, Nat.reduceLeDiff, Nat.reduceLT, Nat.reduceEqDiff, Nat.reduceBEq, hy.blk, b4.loc, v2]
            refine ⟨⟨a + 2, _, bs ++ [_], _⟩, rfl, rfl, ⟨hy4.set (a + 2) x.line x.bad, by simpa [bcells] using b4, by omega, by omega, by simp; omega⟩, by omega⟩
          by_cases c6 : u = 120
          · subst c6
            by_cases k1 : a + 3 < e
            · obtain ⟨p2, hp2⟩ := strIndex_has (s := s) (i := a + 2) (by omega) (by omega)
              obtain ⟨p3, hp3⟩ := strIndex_has (s := s) (i := a + 3) (by omega) (by omega)
              simp (maxSteps := 4000000) only [go_sem, reduceIte, reduceCtorEq, Nat.reduceAdd, Nat.reduceSub, Nat.reduceMul, Nat.reduceLeDiff, Nat.reduceLT, Nat.reduceEqDiff, Nat.reduceBEq, δ30, hy.blk, ha, hf, v1, hu, Int.reduceLT, Int.reduceEq, k1, v2, v3, hp2, hp3]
              refine QCallK.of cb45 (fun _ _ => hex_ok) ?_
              by_cases e1 : 0 ≤ hexI p2
              · simp (maxSteps := 4000000) only [go_sem, reduceIte, reduceCtorEq, Nat.reduceAdd, Nat.reduceSub, Nat.reduceMul, Nat.reduceLeDiff, Nat.reduceLT, Nat.reduceEqDiff, Nat.reduceBEq, δ30, hy.blk, ha, hf, v1, hu, Int.reduceLT, Int.reduceEq, k1, v2, v3, hp2, hp3, e1]
                refine callBy cb45 (hex_ok.mono ?_)
                rintro r h2 ⟨rfl, hh⟩
                rw [hh]
                clear hh
                by_cases e2 : 0 ≤ hexI p3
                · simp (maxSteps := 4000000) only [go_sem, reduceIte, reduceCtorEq, Nat.reduceAdd, Nat.reduceSub, Nat.reduceMul, Nat.reduceLeDiff, Nat.reduceLT, Nat.reduceEqDiff, Nat.reduceBEq, δ30, hy.blk, ha, hf, v1, hu, Int.reduceLT, Int.reduceEq, v2, v3, hp2, hp3, e2]
                  refine QCallK.of cb45 (fun _ _ => hex_ok) ?_
                  simp (maxSteps := 4000000) only [go_sem, reduceIte, reduceCtorEq, Nat.reduceAdd, Nat.reduceSub, Nat.reduceMul, Nat.reduceLeDiff, Nat.reduceLT, Nat.reduceEqDiff, Nat.reduceBEq, δ30, hy.blk, ha, hf, v1, hu, Int.reduceLT, Int.reduceEq, v2, v3, hp2, hp3]
                  refine QCallK.of cb45 (fun _ _ => hex_ok) ?_
                  simp (maxSteps := 4000000) only [go_sem, reduceIte, reduceCtorEq, Nat.reduceAdd, Nat.reduceSub, Nat.reduceMul, Nat.reduceLeDiff, Nat.reduceLT, Nat.reduceEqDiff, Nat.reduceBEq, δ30, hy.blk, ha, hf, v1, hu, Int.reduceLT, Int.reduceEq]
                  intro n hn hL
                  refine append_g (b := g.blk) (L := g.live) hb hy.own hL [.int .u8 _] (by simp [bcells]; omega) rfl (by decide) fun av L4 b4 k4 => ?_
                  have hy4 := hy.rows (L1 := L4) fun ρ e hl => (k4 ρ hl (fun e' => hb.ne ρ e' e)).1
                  simp (maxSteps := 4000000) only [go_sem, reduceIte, reduceCtorEq, Nat.reduceAdd, Nat.reduceSub, Nat.reduceMul, Nat.reduceLeDiff, Nat.reduceLT, Nat.reduceEqDiff, Nat.reduceBEq, hy.blk, b4.loc, v4]
                  refine ⟨⟨a + 4, _, bs ++ [_], _⟩, rfl, rfl, ⟨hy4.set (a + 4) x.line x.bad, by simpa [bcells] using b4, by omega, by omega, by simp; omega⟩, by omega⟩
                · simp (maxSteps := 4000000) only [go_sem, reduceIte, reduceCtorEq, Nat.reduceAdd, Nat.reduceSub, Nat.reduceMul, Nat.reduceLeDiff, Nat.reduceLT, Nat.reduceEqDiff, Nat.reduceBEq, δ30, hy.blk, ha, hf, v1, hu, Int.reduceLT, Int.reduceEq, e2]
                  refine callBy cb22 (c_xfail hy fun h' b' hx' c1 c2 => ?_)
                  simp (maxSteps := 4000000) only [go_sem, reduceIte, reduceCtorEq, Nat.reduceAdd, Nat.reduceSub, Nat.reduceMul, Nat.reduceLeDiff, Nat.reduceLT, Nat.reduceEqDiff, Nat.reduceBEq]
                  exact h1 _ _ hx' ⟨Nat.le_succ _, rfl, by dsimp only; omega, by dsimp only; omega, by dsimp only at c1 c2 ⊢; omega, Nat.le_succ _, fun t ht => .inl ht⟩
              · simp (maxSteps := 4000000) only [go_sem, reduceIte, reduceCtorEq, Nat.reduceAdd, Nat.reduceSub, Nat.reduceMul, Nat.reduceLeDiff, Nat.reduceLT, Nat.reduceEqDiff, Nat.reduceBEq, δ30, hy.blk, ha, hf, v1, hu, Int.reduceLT, Int.reduceEq, e1]
                refine callBy cb22 (c_xfail hy fun h' b' hx' c1 c2 => ?_)
                simp (maxSteps := 4000000) only [go_sem, reduceIte, reduceCtorEq, Nat.reduceAdd, Nat.reduceSub, Nat.reduceMul, Nat.reduceLeDiff, Nat.reduceLT, Nat.reduceEqDiff, Nat.reduceBEq]
                exact h1 _ _ hx' ⟨Nat.le_succ _, rfl, by dsimp only; omega, by dsimp only; omega, by dsimp only at c1 c2 ⊢; omega, Nat.le_succ _, fun t ht => .inl ht⟩
            · simp (maxSteps := 4000000) only [go_sem, reduceIte, reduceCtorEq, Nat.reduceAdd, Nat.reduceSub, Nat.reduceMul, Nat.reduceLeDiff, Nat.reduceLT, Nat.reduceEqDiff, Nat.reduceBEq, δ30, hy.blk, ha, hf, v1, hu, Int.reduceLT, Int.reduceEq, k1, v3]
              refine callBy cb22 (c_xfail hy fun h' b' hx' c1 c2 => ?_)
              simp (maxSteps := 4000000) only [go_sem, reduceIte, reduceCtorEq, Nat.reduceAdd, Nat.reduceSub, Nat.reduceMul, Nat.reduceLeDiff, Nat.reduceLT, Nat.reduceEqDiff, Nat.reduceBEq]
              exact h1 _ _ hx' ⟨Nat.le_succ _, rfl, by dsimp only; omega, by dsimp only; omega, by dsimp only at c1 c2 ⊢; omega, Nat.le_succ _, fun t ht => .inl ht⟩
          · simp (maxSteps := 4000000) only [go_sem, reduceIte, reduceCtorEq, Nat.reduceAdd, Nat.reduceSub, Nat.reduceMul, Nat.reduceLeDiff, Nat.reduceLT, Nat.reduceEqDiff, Nat.reduceBEq, δ30, hy.blk, ha, hf, v1, hu, Int.reduceLT, Int.reduceEq, c1, c2, c3, c4, c5, c6]
            refine callBy cb22 (c_xfail hy fun h' b' hx' c1 c2 => ?_)
            simp (maxSteps := 4000000) only [go_sem, reduceIte, reduceCtorEq, Nat.reduceAdd, Nat.reduceSub, Nat.reduceMul, Nat.reduceLeDiff, Nat.reduceLT, Nat.reduceEqDiff, Nat.reduceBEq]
            exact h1 _ _ hx' ⟨Nat.le_succ _, rfl, by dsimp only; omega, by dsimp only; omega, by dsimp only at c1 c2 ⊢; omega, Nat.le_succ _, fun t ht => .inl ht⟩
        · simp (maxSteps := 4000000) only [go_sem, reduceIte, reduceCtorEq, Nat.reduceAdd, Nat.reduceSub, Nat.reduceMul, Nat.reduceLeDiff, Nat.reduceLT, Nat.reduceEqDiff, Nat.reduceBEq, δ30, hy.blk, ha, hf, b1, b2, b3]
          intro n hn hL n2 hn2 hL2
          refine append_g (b := g.blk) (L := upd g.live n true) (hb.grow (Grow.upd n)) (hy.live (Grow.upd n)).own hL2 [.int .u8 f] (by simp [bcells]; omega) rfl (by decide) fun av L4 b4 k4 => ?_
          have hy4 := (hy.live (Grow.upd n)).rows (L1 := L4) fun ρ e hl => (k4 ρ hl (fun e' => hb.ne ρ e' e)).1
          simp (maxSteps := 4000000) only [go_sem, reduceIte, reduceCtorEq, Nat.reduceAdd, Nat.reduceSub, Nat.reduceMul, Nat.reduceLeDiff, Nat.reduceLT, Nat.reduceEqDiff, Nat.reduceBEq, hy.blk, b4.loc, v1]
          refine ⟨⟨a + 1, _, bs ++ [_], _⟩, rfl, rfl, ⟨hy4.set (a + 1) x.line x.bad, by simpa [bcells] using b4, by omega, by omega, by simp; omega⟩, by omega⟩
      · have hle2 : IntKind.wrap .i64 (e + 1) = e + 1 := wrapS hs (by omega) (by omega)
        have key : ∀ t : ByteArray, t.size = bs.length → ∀ h' v', SX p s h' { x with at' := e + 1, outv := v', ts := x.ts ++ [⟨3, t, x.at'⟩] } → S (.tuple []) h' := fun t ht h' v' hh => h1 _ _ hh ⟨Nat.le_succ _, rfl, by dsimp only; omega, by dsimp only; omega, fun _ => by dsimp only; omega, by simp, fun t' ht' => by
          simp only [List.mem_append, List.mem_singleton] at ht'
          rcases ht' with ht' | rfl
          · exact .inl ht'
          · exact .inr (by dsimp only; omega)⟩
        rcases hb.val with ⟨q1, q2⟩ | ⟨ρ, q1⟩
        · simp (maxSteps := 4000000) only [go_sem, reduceIte, reduceCtorEq, Nat.reduceAdd, Nat.reduceSub, Nat.reduceMul, Nat.reduceLeDiff, Nat.reduceLT, Nat.reduceEqDiff, Nat.reduceBEq, δ30, hy.blk, ha, q1, hle2]
          refine callBy cb21 (c_xput (hy.set (e + 1) x.line x.bad) (by dsimp only; omega) fun h2 v2 hx2 => ?_)
          simp (maxSteps := 4000000) only [go_sem, reduceIte, reduceCtorEq, Nat.reduceAdd, Nat.reduceSub, Nat.reduceMul, Nat.reduceLeDiff, Nat.reduceLT, Nat.reduceEqDiff, Nat.reduceBEq]
          exact key .empty (by cases bs with | nil => rfl | cons _ _ => simp [bcells] at q2) _ _ hx2
        · simp (maxSteps := 4000000) only [go_sem, reduceIte, reduceCtorEq, Nat.reduceAdd, Nat.reduceSub, Nat.reduceMul, Nat.reduceLeDiff, Nat.reduceLT, Nat.reduceEqDiff, Nat.reduceBEq, δ30, hy.blk, ha, q1, hle2, aBytes_bcells]
          refine callBy cb21 (c_xput (hy.set (e + 1) x.line x.bad) (by dsimp only; omega) fun h2 v2 hx2 => ?_)
          simp (maxSteps := 4000000) only [go_sem, reduceIte, reduceCtorEq, Nat.reduceAdd, Nat.reduceSub, Nat.reduceMul, Nat.reduceLeDiff, Nat.reduceLT, Nat.reduceEqDiff, Nat.reduceBEq]
          exact key ⟨_⟩ (by simp [ByteArray.size]) _ _ hx2
    · by_cases h10 : d = 10
      · subst h10
        simp (maxSteps := 4000000) only [go_sem, reduceIte, reduceCtorEq, Nat.reduceAdd, Nat.reduceSub, Nat.reduceMul, Nat.reduceLeDiff, Nat.reduceLT, Nat.reduceEqDiff, Nat.reduceBEq, δ30, hy.blk, hd, he, hdc, hle, Int.reduceLT, Int.reduceEq]
        refine callBy cb22 (c_xfail hy fun h' b' hx' c1 c2 => ?_)
        simp (maxSteps := 4000000) only [go_sem, reduceIte, reduceCtorEq, Nat.reduceAdd, Nat.reduceSub, Nat.reduceMul, Nat.reduceLeDiff, Nat.reduceLT, Nat.reduceEqDiff, Nat.reduceBEq]
        exact h1 _ _ hx' ⟨Nat.le_succ _, rfl, by dsimp only; omega, by dsimp only; omega, by dsimp only at c1 c2 ⊢; omega, Nat.le_succ _, fun t ht => .inl ht⟩
      · by_cases h92 : d = 92
        · subst h92
          by_cases hl2 : e + 1 < s.size
          · obtain ⟨d2, hd2⟩ := strIndex_has (s := s) (i := e + 1) (by omega) hl2
            have w3 : IntKind.wrap .i64 (e + 1 + 1) = e + 1 + 1 := wrapS hs (by omega) (by omega)
            by_cases hd10 : d2 = 10
            · subst hd10
              simp (maxSteps := 4000000) only [go_sem, reduceIte, reduceCtorEq, Nat.reduceAdd, Nat.reduceSub, Nat.reduceMul, Nat.reduceLeDiff, Nat.reduceLT, Nat.reduceEqDiff, Nat.reduceBEq, δ30, hy.blk, hd, he, h10, hdc, w1, hl2, hd2, Int.reduceLT, Int.reduceEq]
              exact ⟨⟨e + 1, _⟩, rfl, rfl, ⟨hy, by dsimp only; omega, by dsimp only; omega⟩, by dsimp only; omega⟩
            · simp (maxSteps := 4000000) only [go_sem, reduceIte, reduceCtorEq, Nat.reduceAdd, Nat.reduceSub, Nat.reduceMul, Nat.reduceLeDiff, Nat.reduceLT, Nat.reduceEqDiff, Nat.reduceBEq, δ30, hy.blk, hd, he, h10, hdc, w1, w3, hl2, hd2, hd10, Int.reduceLT, Int.reduceEq]
              exact ⟨⟨e + 1 + 1, _⟩, rfl, rfl, ⟨hy, by dsimp only; omega, by dsimp only; omega⟩, by dsimp only; omega⟩
          · simp (maxSteps := 4000000) only [go_sem, reduceIte, reduceCtorEq, Nat.reduceAdd, Nat.reduceSub, Nat.reduceMul, Nat.reduceLeDiff, Nat.reduceLT, Nat.reduceEqDiff, Nat.reduceBEq, δ30, hy.blk, hd, he, h10, hdc, w1, hl2, Int.reduceLT, Int.reduceEq]
            exact ⟨⟨e + 1, _⟩, rfl, rfl, ⟨hy, by dsimp only; omega, by dsimp only; omega⟩, by dsimp only; omega⟩
        · simp (maxSteps := 4000000) only [go_sem, reduceIte, reduceCtorEq, Nat.reduceAdd, Nat.reduceSub, Nat.reduceMul, Nat.reduceLeDiff, Nat.reduceLT, Nat.reduceEqDiff, Nat.reduceBEq, δ30, hy.blk, hd, he, h10, hdc, h92, w1]
          exact ⟨⟨e + 1, _⟩, rfl, rfl, ⟨hy, by dsimp only; omega, by dsimp only; omega⟩, by dsimp only; omega⟩
  · have hle : (s.size : Int) ≤ e := by omega
    simp (maxSteps := 4000000) only [go_sem, reduceIte, reduceCtorEq, Nat.reduceAdd, Nat.reduceSub, Nat.reduceMul, Nat.reduceLeDiff, Nat.reduceLT, Nat.reduceEqDiff, Nat.reduceBEq, δ30, hy.blk, he, hle]
    refine callBy cb22 (c_xfail hy fun h' b' hx' c1 c2 => ?_)
    simp (maxSteps := 4000000) only [go_sem, reduceIte, reduceCtorEq, Nat.reduceAdd, Nat.reduceSub, Nat.reduceMul, Nat.reduceLeDiff, Nat.reduceLT, Nat.reduceEqDiff, Nat.reduceBEq]
    exact h1 _ _ hx' ⟨Nat.le_succ _, rfl, by dsimp only; omega, by dsimp only; omega, by dsimp only at c1 c2 ⊢; omega, Nat.le_succ _, fun t ht => .inl ht⟩

end Go.Proofs.Ab5
end
