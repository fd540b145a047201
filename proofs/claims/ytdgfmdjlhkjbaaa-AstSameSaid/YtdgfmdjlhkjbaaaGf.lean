/-
  The reference parser: blocks.
-/
import Derived.Test.YtdgfmdjlhkjbaaaGc
import Derived.Test.YtdgfmdjlhkjbaaaGd
set_option linter.all false
section
set_option maxRecDepth 10000
set_option maxHeartbeats 4000000
set_option linter.unusedSimpArgs false
set_option linter.unusedVariables false
namespace Go.Proofs.Ab5
open Go.Ab Go.Proofs
variable {ts : List Tok} {N : Nat}
theorem s_block (ih : AllS ts N) : CS ts (N + 1) 27 39 := by
  intro p b L ρt at0 nv0 deep0 df0 lp0 tp0 code0 pos0 ns0 R S p0 room hN h1
  have g0 := p0.pos
  have g1 := p0.lt
  have g2 := p0.tok.most
  have ihE := allE (ts := ts) (64 * ts.length + 100)
  refine acalls_of Try.func39 rfl (rd_ok hMix (κ := fun _ => false) δ39 _ (by decide +kernel) ?_)
  simp (maxSteps := 4000000) only [go_sem, reduceIte, reduceCtorEq, Nat.reduceAdd, Nat.reduceSub, Nat.reduceMul, Nat.reduceLeDiff, Nat.reduceLT, Nat.reduceEqDiff, Nat.reduceBEq, Try.ntmps39, Try.f39, δ39]
  refine callBy cb12 (c_bad (fun e0 => ?_) (fun e0 => ?_)) <;> simp (maxSteps := 4000000) only [go_sem, reduceIte, reduceCtorEq, Nat.reduceAdd, Nat.reduceSub, Nat.reduceMul, Nat.reduceLeDiff, Nat.reduceLT, Nat.reduceEqDiff, Nat.reduceBEq]
  · refine callBy cb32 (c_is p0 fun v hv => ?_)
    cases v <;> simp (maxSteps := 4000000) only [go_sem, reduceIte, reduceCtorEq, Nat.reduceAdd, Nat.reduceSub, Nat.reduceMul, Nat.reduceLeDiff, Nat.reduceLT, Nat.reduceEqDiff, Nat.reduceBEq]
    · refine callBy cb37 (c_wrong p0 fun code7 pos7 hc => ?_)
      simp (maxSteps := 4000000) only [go_sem, reduceIte, reduceCtorEq, Nat.reduceAdd, Nat.reduceSub, Nat.reduceMul, Nat.reduceLeDiff, Nat.reduceLT, Nat.reduceEqDiff, Nat.reduceBEq]
      exact h1 _ _ _ _ _ _ _ _ _ _ _ (p0.fail (Int.le_refl _) g1 hc _) (Keep.refl _ _) (by omega) (by omega) (by omega) (fun e => absurd e hc)
    · have hv := hv rfl
      refine callBy cb13 (c_now p0 fun tok x1 x2 x3 => ?_)
      simp (maxSteps := 4000000) only [go_sem, reduceIte, reduceCtorEq, Nat.reduceAdd, Nat.reduceSub, Nat.reduceMul, Nat.reduceLeDiff, Nat.reduceLT, Nat.reduceEqDiff, Nat.reduceBEq]
      refine callBy cb48 (c_enter fun v deep2 code2 pos2 y1 y2 y3 => ?_)
      cases v <;> simp (maxSteps := 4000000) only [go_sem, reduceIte, reduceCtorEq, Nat.reduceAdd, Nat.reduceSub, Nat.reduceMul, Nat.reduceLeDiff, Nat.reduceLT, Nat.reduceEqDiff, Nat.reduceBEq, p0.wrap1]
      · exact h1 _ _ _ _ _ _ _ _ _ _ _ (p0.fail (Int.le_refl _) g1 (y2 rfl) _) (Keep.refl _ _) (by omega) (by omega) (by omega) (fun e => absurd e (y2 rfl))
      · have p2 := p0.step (at1 := at0 + 1) (code1 := code2) (by omega) hv y3
        refine callBy cb13 (c_now p2 fun tok u1 u2 u3 => ?_)
        simp (maxSteps := 4000000) only [go_sem, reduceIte, reduceCtorEq, Nat.reduceAdd, Nat.reduceSub, Nat.reduceMul, Nat.reduceLeDiff, Nat.reduceLT, Nat.reduceEqDiff, Nat.reduceBEq, p2.wrap1]
        refine ⟨fun hk => ?_, fun hk => ?_⟩
        · refine callBy cb41 (c_simple p2 (by omega) fun r4 at4 nv4 ns4 deep4 df4 lp4 tp4 code4 pos4 L4 p4 k4 m4 t4 c4 q4 => ?_)
          simp (maxSteps := 4000000) only [go_sem, reduceIte, reduceCtorEq, Nat.reduceAdd, Nat.reduceSub, Nat.reduceMul, Nat.reduceLeDiff, Nat.reduceLT, Nat.reduceEqDiff, Nat.reduceBEq]
          intro n hn hL n2 hn2 hL2
          have p5 := p4.grow (Grow.upd n)
          refine append_acc (ks := []) (Acc.nil _ nv4) p5.nodes.own hL2 [r4] (by simp) rfl (by decide) fun v6 L6 a6 k6 => ?_
          simp (maxSteps := 4000000) only [go_sem, reduceIte, reduceCtorEq, Nat.reduceAdd, Nat.reduceSub, Nat.reduceMul, Nat.reduceLeDiff, Nat.reduceLT, Nat.reduceEqDiff, Nat.reduceBEq, a6.ints.loc]
          have p6 := (p5.acc (v := .nilSlice) (fun _ h => (nomatch h)) k6).roots (R' := ([] ++ [r4]) ++ R) (by simp)
          have k7 := (k4.trans (Grow.upd n).keep).acc (Fr.nil _ _) k6
          refine callBy cb42 (c_kind p6 (by decide) fun tok4 v at8 code8 pos8 y0 y1 y2 y3 y4 y5 => ?_)
          simp (maxSteps := 4000000) only [go_sem, reduceIte, reduceCtorEq, Nat.reduceAdd, Nat.reduceSub, Nat.reduceMul, Nat.reduceLeDiff, Nat.reduceLT, Nat.reduceEqDiff, Nat.reduceBEq, a6.ints.loc]
          have p8 := p6.step (code1 := code8) y4 y5 (fun e => (y3 e).1)
          refine callBy cb12 (c_bad (fun e9 => ?_) (fun e9 => ?_)) <;> simp (maxSteps := 4000000) only [go_sem, reduceIte, reduceCtorEq, Nat.reduceAdd, Nat.reduceSub, Nat.reduceMul, Nat.reduceLeDiff, Nat.reduceLT, Nat.reduceEqDiff, Nat.reduceBEq]
          · have hne : (([] ++ [r4]) : List Int) ≠ [] := by simp
            obtain ⟨x0, xs, hx⟩ : ∃ x0 xs, (([] ++ [r4]) : List Int) = x0 :: xs := List.exists_cons_of_ne_nil hne
            have rg := (p8.fr e9).range (r := x0) (by rw [hx]; simp)
            obtain ⟨nd, hnd⟩ : ∃ nd, ns4[x0.toNat]? = some nd := ⟨_, List.getElem?_eq_getElem (by omega)⟩
            have hat0 := a6.ints.at (i := 0) (Int.le_refl 0) (k := x0) (by rw [hx]; rfl)
            have hat1 := p8.nodes.at rg.1 hnd
            simp (maxSteps := 4000000) only [go_sem, reduceIte, reduceCtorEq, Nat.reduceAdd, Nat.reduceSub, Nat.reduceMul, Nat.reduceLeDiff, Nat.reduceLT, Nat.reduceEqDiff, Nat.reduceBEq, δ39, hat0, hat1, Nd.cells, a6.ints.loc, a6.ints.one, p8.nodes.one]
            refine callBy cb16 (c_put (ks := ([] ++ [r4])) p8 a6.ints (by omega) fun r20 nv20 ns20 L20 p20 k20 c20 => ?_)
            simp (maxSteps := 4000000) only [go_sem, reduceIte, reduceCtorEq, Nat.reduceAdd, Nat.reduceSub, Nat.reduceMul, Nat.reduceLeDiff, Nat.reduceLT, Nat.reduceEqDiff, Nat.reduceBEq]
            exact h1 _ _ _ _ _ _ _ _ _ _ _ p20 (k7.trans k20) (by omega) (by omega) (by omega) (fun e => ⟨e0, by omega⟩)
          · exact h1 _ _ _ _ _ _ _ _ _ _ _ (p8.bad e9 _) k7 (by omega) (by omega) (by omega) (fun e => absurd e e9)
        · have p3 := p2.step (at1 := at0 + 1 + 1) (code1 := code2) (by omega) (u2 (by rw [hk]; decide)) id
          refine callBy cb42 (c_kind p3 (by decide) fun tok4 v at4 code4 pos4 y0 y1 y2 y3 y4 y5 => ?_)
          simp (maxSteps := 4000000) only [go_sem, reduceIte, reduceCtorEq, Nat.reduceAdd, Nat.reduceSub, Nat.reduceMul, Nat.reduceLeDiff, Nat.reduceLT, Nat.reduceEqDiff, Nat.reduceBEq]
          have p4 := p3.step (code1 := code4) y4 y5 (fun e => (y3 e).1)
          refine AWp.loop_st [true, false, false, true, true, false, false, false, false, false, false, false, false, false, false, false, false, false, false, false, false, false, false, false, false, false, false, false, false, false, false, false, false, false, false, false, false, false, false, false, false, false, false, false, false, false, false, false, false, false, false, false, false, false, false, false, false, false, false, false, false, false, false, false, false, false, false, false, false, false, false, false, false, false, false, false, false, false, false, false, false, false, false, false, false, false, false, false, false, false, false, false, false, false, false, false, false, false, false, false, false, false] [] (fun x : LS => ⟨[.ptr p 0, .any, .any, .bool tp0, x.lv, .any, .any, .any, .any, .any, .any, .any, .any, .any, .any, .any, .any, .any, .any, .any, .any, .any, .any, .any, .any, .any, .any, .any, .any, .any, .any, .any, .any, .any, .any, .any, .any, .any, .any, .any, .any, .any, .any, .any, .any, .any, .any, .any, .any, .any, .any, .any, .any, .any, .any, .any, .any, .any, .any, .any, .any, .any, .any, .any, .any, .any, .any, .any, .any, .any, .any, .any, .any, .any, .any, .any, .any, .any, .any, .any, .any, .any, .any, .any, .any, .any, .any, .any, .any, .any, .any, .any, .any, .any, .any, .any, .any, .any, .any, .any, .any, .any], []⟩) (fun x => ⟨upd b p (some (pcells ρt ts x.at' x.nv x.deep x.df x.lp x.tp x.code x.pos)), x.L⟩)
            (fun x => PI ts x.at' x.nv x.ns x.code x.L (x.l ++ R) ∧ Acc x.L x.nv x.lv x.l ∧ Fr L nv0 x.lv ∧ Keep L nv0 x.L x.nv ∧ at0 + 2 ≤ x.at' ∧ (x.ns.length : Int) + 2 * at0 + 4 ≤ ns0.length + 2 * x.at' ∧ (x.l.length : Int) ≤ x.at' + 1 ∧ (x.code = 0 → (x.l.length : Int) ≤ x.at'))
            (fun x => 2 * (ts.length - x.at').toNat + (if x.code = 0 then 1 else 0)) ⟨0, at4, nv0, ns0, deep2, df0, lp0, false, code4, pos4, L, .nilSlice, [], false⟩ ?_ ?_ rfl ⟨p4, Acc.nil _ _, Fr.nil _ _, Keep.refl _ _, by dsimp only; omega, by dsimp only; omega, by simp; omega, by simp; omega⟩ ?_
          · simp (maxSteps := 4000000) only [go_sem, reduceIte, reduceCtorEq, Nat.reduceAdd, Nat.reduceSub, Nat.reduceMul, Nat.reduceLeDiff, Nat.reduceLT, Nat.reduceEqDiff, Nat.reduceBEq]
          · simp (maxSteps := 4000000) only [go_sem, reduceIte, reduceCtorEq, Nat.reduceAdd, Nat.reduceSub, Nat.reduceMul, Nat.reduceLeDiff, Nat.reduceLT, Nat.reduceEqDiff, Nat.reduceBEq]
          rintro ⟨a, at5, nv5, ns5, deep5, df5, lp5, tp5, code5, pos5, L5, lv5, l5, f5⟩ ⟨p5, a5, f5', k5, m5, c5, l5', s5⟩
          dsimp only at p5 a5 f5' k5 m5 c5 l5' s5 ⊢
          have g3 := p5.pos
          have g4 := p5.lt
          refine rd_ok hMix (κ := fun _ => false) δ39 _ rfl ?_
          simp (maxSteps := 4000000) only [go_sem, reduceIte, reduceCtorEq, Nat.reduceAdd, Nat.reduceSub, Nat.reduceMul, Nat.reduceLeDiff, Nat.reduceLT, Nat.reduceEqDiff, Nat.reduceBEq]
          refine callBy cb12 (c_bad (fun e5 => ?_) (fun e5 => ?_)) <;> simp (maxSteps := 4000000) only [go_sem, reduceIte, reduceCtorEq, Nat.reduceAdd, Nat.reduceSub, Nat.reduceMul, Nat.reduceLeDiff, Nat.reduceLT, Nat.reduceEqDiff, Nat.reduceBEq, a5.ints.len, a5.ints.fits]
          · refine ⟨fun hz => ?_, fun hz => ?_⟩
            ·
              refine callBy cb14 (ih.statement p5 (by omega) (by omega) fun r8 at8 nv8 ns8 deep8 df8 lp8 tp8 code8 pos8 L8 p8 k8 m8 t8 c8 q8 => ?_)
              simp (maxSteps := 4000000) only [go_sem, reduceIte, reduceCtorEq, Nat.reduceAdd, Nat.reduceSub, Nat.reduceMul, Nat.reduceLeDiff, Nat.reduceLT, Nat.reduceEqDiff, Nat.reduceBEq]
              intro n hn hL n2 hn2 hL2
              have p9 := p8.grow (Grow.upd n)
              have k9 := k5.trans (k8.trans (Grow.upd n).keep)
              have a9 := (a5.keep k8).grow (Grow.upd n)
              refine append_acc (ks := l5) a9 p9.nodes.own hL2 [r8] (by simp; omega) rfl (by decide) fun v10 L10 a10 k10 => ?_
              simp (maxSteps := 4000000) only [go_sem, reduceIte, reduceCtorEq, Nat.reduceAdd, Nat.reduceSub, Nat.reduceMul, Nat.reduceLeDiff, Nat.reduceLT, Nat.reduceEqDiff, Nat.reduceBEq, a10.ints.loc]
              refine ⟨⟨0, at8, nv8, ns8, deep8, df8, lp8, tp8, code8, pos8, L10, v10, l5 ++ [r8], false⟩, rfl, rfl, ⟨(p9.acc a9.ne k10).roots (R' := (l5 ++ [r8]) ++ R) (by rw [List.append_assoc]; exact List.perm_middle.symm), a10, Fr.acc k9 f5' k10, k9.acc f5' k10, ?_, ?_, ?_, ?_⟩, ?_⟩
              all_goals dsimp only
              · omega
              · omega
              · have := s5 e5; simp; omega
              · intro e; have := s5 e5; have := q8 e; simp; omega
              · rw [if_pos e5]; split <;> omega
            · refine callBy cb13 (c_now p5 fun tok6 u1 u2 u3 => ?_)
              simp (maxSteps := 4000000) only [go_sem, reduceIte, reduceCtorEq, Nat.reduceAdd, Nat.reduceSub, Nat.reduceMul, Nat.reduceLeDiff, Nat.reduceLT, Nat.reduceEqDiff, Nat.reduceBEq]
              refine ⟨fun hk7 => ?_, fun hk7 => ?_⟩
              ·
                refine callBy cb14 (ih.statement p5 (by omega) (by omega) fun r8 at8 nv8 ns8 deep8 df8 lp8 tp8 code8 pos8 L8 p8 k8 m8 t8 c8 q8 => ?_)
                simp (maxSteps := 4000000) only [go_sem, reduceIte, reduceCtorEq, Nat.reduceAdd, Nat.reduceSub, Nat.reduceMul, Nat.reduceLeDiff, Nat.reduceLT, Nat.reduceEqDiff, Nat.reduceBEq]
                intro n hn hL n2 hn2 hL2
                have p9 := p8.grow (Grow.upd n)
                have k9 := k5.trans (k8.trans (Grow.upd n).keep)
                have a9 := (a5.keep k8).grow (Grow.upd n)
                refine append_acc (ks := l5) a9 p9.nodes.own hL2 [r8] (by simp; omega) rfl (by decide) fun v10 L10 a10 k10 => ?_
                simp (maxSteps := 4000000) only [go_sem, reduceIte, reduceCtorEq, Nat.reduceAdd, Nat.reduceSub, Nat.reduceMul, Nat.reduceLeDiff, Nat.reduceLT, Nat.reduceEqDiff, Nat.reduceBEq, a10.ints.loc]
                refine ⟨⟨0, at8, nv8, ns8, deep8, df8, lp8, tp8, code8, pos8, L10, v10, l5 ++ [r8], false⟩, rfl, rfl, ⟨(p9.acc a9.ne k10).roots (R' := (l5 ++ [r8]) ++ R) (by rw [List.append_assoc]; exact List.perm_middle.symm), a10, Fr.acc k9 f5' k10, k9.acc f5' k10, ?_, ?_, ?_, ?_⟩, ?_⟩
                all_goals dsimp only
                · omega
                · omega
                · have := s5 e5; simp; omega
                · intro e; have := s5 e5; have := q8 e; simp; omega
                · rw [if_pos e5]; split <;> omega
              ·
                refine callBy cb42 (c_kind p5 (by decide) fun tok4 v at8 code8 pos8 y0 y1 y2 y3 y4 y5 => ?_)
                simp (maxSteps := 4000000) only [go_sem, reduceIte, reduceCtorEq, Nat.reduceAdd, Nat.reduceSub, Nat.reduceMul, Nat.reduceLeDiff, Nat.reduceLT, Nat.reduceEqDiff, Nat.reduceBEq, a5.ints.loc]
                have p8 := p5.step (code1 := code8) y4 y5 (fun e => (y3 e).1)
                refine callBy cb12 (c_bad (fun e9 => ?_) (fun e9 => ?_)) <;> simp (maxSteps := 4000000) only [go_sem, reduceIte, reduceCtorEq, Nat.reduceAdd, Nat.reduceSub, Nat.reduceMul, Nat.reduceLeDiff, Nat.reduceLT, Nat.reduceEqDiff, Nat.reduceBEq]
                · have hne : (l5 : List Int) ≠ [] := (fun e => by rw [e] at hz; exact hz rfl)
                  obtain ⟨x0, xs, hx⟩ : ∃ x0 xs, (l5 : List Int) = x0 :: xs := List.exists_cons_of_ne_nil hne
                  have rg := (p8.fr e9).range (r := x0) (by rw [hx]; simp)
                  obtain ⟨nd, hnd⟩ : ∃ nd, ns5[x0.toNat]? = some nd := ⟨_, List.getElem?_eq_getElem (by omega)⟩
                  have hat0 := a5.ints.at (i := 0) (Int.le_refl 0) (k := x0) (by rw [hx]; rfl)
                  have hat1 := p8.nodes.at rg.1 hnd
                  simp (maxSteps := 4000000) only [go_sem, reduceIte, reduceCtorEq, Nat.reduceAdd, Nat.reduceSub, Nat.reduceMul, Nat.reduceLeDiff, Nat.reduceLT, Nat.reduceEqDiff, Nat.reduceBEq, δ39, hat0, hat1, Nd.cells, a5.ints.loc, a5.ints.one, p8.nodes.one]
                  refine callBy cb16 (c_put (ks := l5) p8 a5.ints (by omega) fun r20 nv20 ns20 L20 p20 k20 c20 => ?_)
                  simp (maxSteps := 4000000) only [go_sem, reduceIte, reduceCtorEq, Nat.reduceAdd, Nat.reduceSub, Nat.reduceMul, Nat.reduceLeDiff, Nat.reduceLT, Nat.reduceEqDiff, Nat.reduceBEq]
                  exact h1 _ _ _ _ _ _ _ _ _ _ _ p20 (k5.trans k20) (by omega) (by omega) (by omega) (fun e => ⟨e0, by omega⟩)
                · exact h1 _ _ _ _ _ _ _ _ _ _ _ (p8.bad e9 _) k5 (by omega) (by omega) (by omega) (fun e => absurd e e9)
          ·
            refine callBy cb42 (c_kind p5 (by decide) fun tok4 v at8 code8 pos8 y0 y1 y2 y3 y4 y5 => ?_)
            simp (maxSteps := 4000000) only [go_sem, reduceIte, reduceCtorEq, Nat.reduceAdd, Nat.reduceSub, Nat.reduceMul, Nat.reduceLeDiff, Nat.reduceLT, Nat.reduceEqDiff, Nat.reduceBEq, a5.ints.loc]
            have p8 := p5.step (code1 := code8) y4 y5 (fun e => (y3 e).1)
            refine callBy cb12 (c_bad (fun e9 => ?_) (fun e9 => ?_)) <;> simp (maxSteps := 4000000) only [go_sem, reduceIte, reduceCtorEq, Nat.reduceAdd, Nat.reduceSub, Nat.reduceMul, Nat.reduceLeDiff, Nat.reduceLT, Nat.reduceEqDiff, Nat.reduceBEq]
            · have hne : (l5 : List Int) ≠ [] := absurd (y3 e9).1 e5
              obtain ⟨x0, xs, hx⟩ : ∃ x0 xs, (l5 : List Int) = x0 :: xs := List.exists_cons_of_ne_nil hne
              have rg := (p8.fr e9).range (r := x0) (by rw [hx]; simp)
              obtain ⟨nd, hnd⟩ : ∃ nd, ns5[x0.toNat]? = some nd := ⟨_, List.getElem?_eq_getElem (by omega)⟩
              have hat0 := a5.ints.at (i := 0) (Int.le_refl 0) (k := x0) (by rw [hx]; rfl)
              have hat1 := p8.nodes.at rg.1 hnd
              simp (maxSteps := 4000000) only [go_sem, reduceIte, reduceCtorEq, Nat.reduceAdd, Nat.reduceSub, Nat.reduceMul, Nat.reduceLeDiff, Nat.reduceLT, Nat.reduceEqDiff, Nat.reduceBEq, δ39, hat0, hat1, Nd.cells, a5.ints.loc, a5.ints.one, p8.nodes.one]
              refine callBy cb16 (c_put (ks := l5) p8 a5.ints (by omega) fun r20 nv20 ns20 L20 p20 k20 c20 => ?_)
              simp (maxSteps := 4000000) only [go_sem, reduceIte, reduceCtorEq, Nat.reduceAdd, Nat.reduceSub, Nat.reduceMul, Nat.reduceLeDiff, Nat.reduceLT, Nat.reduceEqDiff, Nat.reduceBEq]
              exact h1 _ _ _ _ _ _ _ _ _ _ _ p20 (k5.trans k20) (by omega) (by omega) (by omega) (fun e => ⟨e0, by omega⟩)
            · exact h1 _ _ _ _ _ _ _ _ _ _ _ (p8.bad e9 _) k5 (by omega) (by omega) (by omega) (fun e => absurd e e9)
  · exact h1 _ _ _ _ _ _ _ _ _ _ _ (p0.bad e0 _) (Keep.refl _ _) (by omega) (by omega) (by omega) (fun e => absurd e e0)

end Go.Proofs.Ab5
end
