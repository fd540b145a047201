/-
  The reference parser: arguments.
-/
import Derived.Test.YtdgfmdjlhkjbaaaDb
set_option linter.all false
section
set_option maxRecDepth 10000
set_option maxHeartbeats 4000000
set_option linter.unusedSimpArgs false
set_option linter.unusedVariables false
namespace Go.Proofs.Ab5
open Go.Ab Go.Proofs
variable {ts : List Tok} {N : Nat}
theorem e_arguments (ih : AllE ts N) : CA ts (N + 1) 30 64 := by
  intro p b L ρt at0 nv0 deep0 df0 lp0 tp0 code0 pos0 ns0 R S p0 room hN h1
  have g0 := p0.pos
  have g1 := p0.lt
  have g2 := p0.tok.most
  refine acalls_of Try.func64 rfl (rd_ok hMix (κ := fun _ => false) δ0 _ rfl ?_)
  simp (maxSteps := 4000000) only [go_sem, reduceIte, reduceCtorEq, Nat.reduceAdd, Nat.reduceSub, Nat.reduceMul, Nat.reduceLeDiff, Nat.reduceLT, Nat.reduceEqDiff, Nat.reduceBEq, Try.ntmps64, Try.f64]
  refine AWp.loop_st [true, false, false, true, true, false, false, false, false, false, false, false, false, false, false, false, false, false, false, false, false, false, false, false, false, false, false, false, false, false, false, false, false, false, false, false, false, false, false, false, false, false, false, false, false, false, false, false, false, false, false, false, false, false, false, false, false, false, false, false, false, false, false, false, false, false, false, false, false, false, false, false, false, false, false, false, false, false, false, false, false, false, false] [] (fun x : LS2 => ⟨[.ptr p 0, .any, .any, x.lv, x.sv, .any, .any, .any, .any, .any, .any, .any, .any, .any, .any, .any, .any, .any, .any, .any, .any, .any, .any, .any, .any, .any, .any, .any, .any, .any, .any, .any, .any, .any, .any, .any, .any, .any, .any, .any, .any, .any, .any, .any, .any, .any, .any, .any, .any, .any, .any, .any, .any, .any, .any, .any, .any, .any, .any, .any, .any, .any, .any, .any, .any, .any, .any, .any, .any, .any, .any, .any, .any, .any, .any, .any, .any, .any, .any, .any, .any, .any, .any], []⟩) (fun x => ⟨upd b p (some (pcells ρt ts x.at' x.nv x.deep x.df x.lp x.tp x.code x.pos)), x.L⟩)
    (fun x => PI ts x.at' x.nv x.ns x.code x.L (x.l ++ R) ∧ Acc x.L x.nv x.lv x.l ∧ Fr L nv0 x.lv ∧ Keep L nv0 x.L x.nv ∧ GAcc x.L x.nv x.sv (scells x.sl) ∧ ((∀ ρ, rowOf x.lv = some ρ → rowOf x.sv ≠ some ρ) ∧ Fr L nv0 x.sv) ∧ at0 ≤ x.at' ∧ (x.ns.length : Int) + at0 ≤ ns0.length + x.at' ∧ (x.code = 0 → code0 = 0) ∧ (x.l.length : Int) + at0 ≤ x.at' ∧ (x.sl.length : Int) + at0 ≤ x.at')
    (fun x => (ts.length - x.at').toNat) ⟨⟨0, at0, nv0, ns0, deep0, df0, lp0, tp0, code0, pos0, L, .nilSlice, [], false⟩, .nilSlice, []⟩ ?_ ?_ rfl ⟨p0, Acc.nil _ _, Fr.nil _ _, Keep.refl _ _, GAcc.nil _ _, ⟨fun _ h => (nomatch h), Fr.nil _ _⟩, by dsimp only; omega, by dsimp only; omega, id, by simp, by simp⟩ ?_
  · simp (maxSteps := 4000000) only [go_sem, reduceIte, reduceCtorEq, Nat.reduceAdd, Nat.reduceSub, Nat.reduceMul, Nat.reduceLeDiff, Nat.reduceLT, Nat.reduceEqDiff, Nat.reduceBEq]
  · simp (maxSteps := 4000000) only [go_sem, reduceIte, reduceCtorEq, Nat.reduceAdd, Nat.reduceSub, Nat.reduceMul, Nat.reduceLeDiff, Nat.reduceLT, Nat.reduceEqDiff, Nat.reduceBEq]
  rintro ⟨⟨a, at2, nv2, ns2, deep2, df2, lp2, tp2, code2, pos2, L2, lv2, l2, f2⟩, sv2, sl2⟩ ⟨p2, a2, f2', k2, b2, ⟨x2, fs2⟩, m2, c2, q2, l2', s2'⟩
  dsimp only at p2 a2 f2' k2 b2 x2 fs2 m2 c2 q2 l2' s2' ⊢
  have g3 := p2.pos
  have g4 := p2.lt
  refine rd_ok hMix (κ := fun _ => false) δ0 _ rfl ?_
  simp (maxSteps := 4000000) only [go_sem, reduceIte, reduceCtorEq, Nat.reduceAdd, Nat.reduceSub, Nat.reduceMul, Nat.reduceLeDiff, Nat.reduceLT, Nat.reduceEqDiff, Nat.reduceBEq]
  refine callBy cb12 (c_bad (fun e2 => ?_) (fun e2 => ?_)) <;> simp (maxSteps := 4000000) only [go_sem, reduceIte, reduceCtorEq, Nat.reduceAdd, Nat.reduceSub, Nat.reduceMul, Nat.reduceLeDiff, Nat.reduceLT, Nat.reduceEqDiff, Nat.reduceBEq, a2.ints.one, a2.ints.loc]
  · refine callBy cb32 (c_is p2 fun v hv => ?_)
    cases v <;> simp (maxSteps := 4000000) only [go_sem, reduceIte, reduceCtorEq, Nat.reduceAdd, Nat.reduceSub, Nat.reduceMul, Nat.reduceLeDiff, Nat.reduceLT, Nat.reduceEqDiff, Nat.reduceBEq, a2.ints.one, a2.ints.loc]
    · refine callBy cb13 (c_now p2 fun tok u1 u2 u3 => ?_)
      simp (maxSteps := 4000000) only [go_sem, reduceIte, reduceCtorEq, Nat.reduceAdd, Nat.reduceSub, Nat.reduceMul, Nat.reduceLeDiff, Nat.reduceLT, Nat.reduceEqDiff, Nat.reduceBEq]
      refine callBy cb52 (c_named p2 fun v hv => ?_)
      cases v <;> simp (maxSteps := 4000000) only [go_sem, reduceIte, reduceCtorEq, Nat.reduceAdd, Nat.reduceSub, Nat.reduceMul, Nat.reduceLeDiff, Nat.reduceLT, Nat.reduceEqDiff, Nat.reduceBEq, b2.strs.len, b2.strs.fits, b2.strs.loc]
      · refine ⟨fun hs => ?_, fun hs => ?_⟩
        ·
          refine callBy cb37 (c_wrong p2 fun code1 pos1 hc => ?_)
          simp (maxSteps := 4000000) only [go_sem, reduceIte, reduceCtorEq, Nat.reduceAdd, Nat.reduceSub, Nat.reduceMul, Nat.reduceLeDiff, Nat.reduceLT, Nat.reduceEqDiff, Nat.reduceBEq]
          exact h1 .nilSlice [] _ _ _ _ _ _ _ _ _ _ (.inl ⟨rfl, rfl⟩) (by simp; omega) (p2.fail (Int.le_refl _) g4 hc _) k2 (by omega) (by omega) (by omega) (fun e => absurd e hc)
        · refine callBy cb36 (c_begins p2 fun v L3 gr3 => ?_)
          have p3 := p2.grow gr3
          have k3 := k2.trans gr3.keep
          cases v <;> simp (maxSteps := 4000000) only [go_sem, reduceIte, reduceCtorEq, Nat.reduceAdd, Nat.reduceSub, Nat.reduceMul, Nat.reduceLeDiff, Nat.reduceLT, Nat.reduceEqDiff, Nat.reduceBEq]
          ·
            refine callBy cb37 (c_wrong p3 fun code1 pos1 hc => ?_)
            simp (maxSteps := 4000000) only [go_sem, reduceIte, reduceCtorEq, Nat.reduceAdd, Nat.reduceSub, Nat.reduceMul, Nat.reduceLeDiff, Nat.reduceLT, Nat.reduceEqDiff, Nat.reduceBEq]
            exact h1 .nilSlice [] _ _ _ _ _ _ _ _ _ _ (.inl ⟨rfl, rfl⟩) (by simp; omega) (p3.fail (Int.le_refl _) g4 hc _) k3 (by omega) (by omega) (by omega) (fun e => absurd e hc)
          · refine callBy cb47 (ih.test p3 (by omega) (by omega) fun r4 at4 nv4 ns4 deep4 df4 lp4 tp4 code4 pos4 L4 p4 k4 m4 t4 c4 q4 => ?_)
            simp (maxSteps := 4000000) only [go_sem, reduceIte, reduceCtorEq, Nat.reduceAdd, Nat.reduceSub, Nat.reduceMul, Nat.reduceLeDiff, Nat.reduceLT, Nat.reduceEqDiff, Nat.reduceBEq]
            intro n hn hL n2 hn2 hL2
            have p5 := p4.grow (Grow.upd n)
            have kk := gr3.keep.trans (k4.trans (Grow.upd n).keep)
            have k5 := k2.trans kk
            have a5 := a2.keep kk
            have b5 := b2.keep kk
            refine append_acc (ks := l2) a5 p5.nodes.own hL2 [r4] (by simp; omega) rfl (by decide) fun v6 L6 a6 k6 => ?_
            simp (maxSteps := 4000000) only [go_sem, reduceIte, reduceCtorEq, Nat.reduceAdd, Nat.reduceSub, Nat.reduceMul, Nat.reduceLeDiff, Nat.reduceLT, Nat.reduceEqDiff, Nat.reduceBEq, a6.ints.loc]
            have p6 := (p5.acc a5.ne k6).roots (R' := (l2 ++ [r4]) ++ R) (by rw [List.append_assoc]; exact List.perm_middle.symm)
            have b6 := b5.other (ne_symm x2) k6
            refine callBy cb12 (c_bad (fun e6 => ?_) (fun e6 => ?_)) <;> simp (maxSteps := 4000000) only [go_sem, reduceIte, reduceCtorEq, Nat.reduceAdd, Nat.reduceSub, Nat.reduceMul, Nat.reduceLeDiff, Nat.reduceLT, Nat.reduceEqDiff, Nat.reduceBEq, a6.ints.loc, a6.ints.one, b6.1.strs.loc]
            · refine callBy cb32 (c_is p6 fun v hv => ?_)
              cases v <;> simp (maxSteps := 4000000) only [go_sem, reduceIte, reduceCtorEq, Nat.reduceAdd, Nat.reduceSub, Nat.reduceMul, Nat.reduceLeDiff, Nat.reduceLT, Nat.reduceEqDiff, Nat.reduceBEq, a6.ints.loc, a6.ints.one, b6.1.strs.loc, p6.wrap1]
              · exact h1 _ (l2 ++ [r4]) _ _ _ _ _ _ _ _ _ _ a6.ints (by simp; omega) p6 (k5.acc f2' k6) (by omega) (by omega) (by omega) (fun e => q2 (by omega))
              · have hv := hv rfl
                have p10 := p6.step (at1 := at4 + 1) (code1 := code4) (by omega) hv id
                refine ⟨⟨⟨0, at4 + 1, _, _, deep4, df4, lp4, tp4, code4, pos4, _, _, l2 ++ [r4], false⟩, _, sl2⟩, rfl, rfl, ⟨p10, a6, (Fr.acc k5 f2' k6), (k5.acc f2' k6), b6.1, ⟨ne_symm b6.2, fs2⟩, ?_, ?_, ?_, ?_, ?_⟩, ?_⟩
                all_goals dsimp only
                · omega
                · omega
                · intro e; exact q2 (by omega)
                · simp; omega
                · first | omega | (simp; omega)
                · omega
            · exact h1 _ (l2 ++ [r4]) _ _ _ _ _ _ _ _ _ _ a6.ints (by simp; omega) p6 (k5.acc f2' k6) (by omega) (by omega) (by omega) (fun e => q2 (by omega))
      · have hv := hv rfl
        refine callBy cb27 (c_among b2.strs (by omega) fun i _ _ => ?_)
        simp (maxSteps := 4000000) only [go_sem, reduceIte, reduceCtorEq, Nat.reduceAdd, Nat.reduceSub, Nat.reduceMul, Nat.reduceLeDiff, Nat.reduceLT, Nat.reduceEqDiff, Nat.reduceBEq]
        refine ⟨fun hi => ?_, fun hi => ?_⟩
        ·
          refine callBy cb37 (c_wrong p2 fun code1 pos1 hc => ?_)
          simp (maxSteps := 4000000) only [go_sem, reduceIte, reduceCtorEq, Nat.reduceAdd, Nat.reduceSub, Nat.reduceMul, Nat.reduceLeDiff, Nat.reduceLT, Nat.reduceEqDiff, Nat.reduceBEq]
          exact h1 .nilSlice [] _ _ _ _ _ _ _ _ _ _ (.inl ⟨rfl, rfl⟩) (by simp; omega) (p2.fail (Int.le_refl _) g4 hc _) k2 (by omega) (by omega) (by omega) (fun e => absurd e hc)
        · intro n hn hL n2 hn2 hL2
          have p3 := p2.grow (Grow.upd n)
          have k3 := k2.trans (Grow.upd n).keep
          refine append_g (b2.grow (Grow.upd n)) p3.nodes.own hL2 [.str tok.text] (by simp [scells]; omega) rfl (by decide) fun sv4 L4 b4 j4 => ?_
          simp (maxSteps := 4000000) only [go_sem, reduceIte, reduceCtorEq, Nat.reduceAdd, Nat.reduceSub, Nat.reduceMul, Nat.reduceLeDiff, Nat.reduceLT, Nat.reduceEqDiff, Nat.reduceBEq, p2.wrap2]
          have p4 := (p3.acc b2.ne j4).step (at1 := at2 + 2) (code1 := code2) (by omega) hv id
          have a4 := (a2.grow (Grow.upd n)).other x2 j4
          have k4 := k3.acc fs2 j4
          have fs4 := Fr.acc k3 fs2 j4
          refine callBy cb47 (ih.test p4 (by omega) (by omega) fun r5 at5 nv5 ns5 deep5 df5 lp5 tp5 code5 pos5 L5 p5 k5 m5 t5 c5 q5 => ?_)
          simp (maxSteps := 4000000) only [go_sem, reduceIte, reduceCtorEq, Nat.reduceAdd, Nat.reduceSub, Nat.reduceMul, Nat.reduceLeDiff, Nat.reduceLT, Nat.reduceEqDiff, Nat.reduceBEq]
          intro n5 hn5 hL5
          refine callBy cb16 (c_put (ks := [r5]) (p5.grow (Grow.upd n5)) (.inr ⟨some n5, rfl⟩) (by omega) fun r6 nv6 ns6 L6 p6 k6 c6 => ?_)
          simp (maxSteps := 4000000) only [go_sem, reduceIte, reduceCtorEq, Nat.reduceAdd, Nat.reduceSub, Nat.reduceMul, Nat.reduceLeDiff, Nat.reduceLT, Nat.reduceEqDiff, Nat.reduceBEq]
          intro n7 hn7 hL7 n8 hn8 hL8
          have p7 := p6.grow (Grow.upd n7)
          have kk := k5.trans ((Grow.upd n5).keep.trans (k6.trans (Grow.upd n7).keep))
          have k7 := k4.trans kk
          have a7 := a4.1.keep kk
          have b7 := b4.keep kk
          refine append_acc (ks := l2) a7 p7.nodes.own hL8 [r6] (by simp; omega) rfl (by decide) fun v9 L9 a9 k9 => ?_
          simp (maxSteps := 4000000) only [go_sem, reduceIte, reduceCtorEq, Nat.reduceAdd, Nat.reduceSub, Nat.reduceMul, Nat.reduceLeDiff, Nat.reduceLT, Nat.reduceEqDiff, Nat.reduceBEq, a9.ints.loc]
          have p9 := (p7.acc a7.ne k9).roots (R' := (l2 ++ [r6]) ++ R) (by rw [List.append_assoc]; exact List.perm_middle.symm)
          have b9 := b7.other (ne_symm a4.2) k9
          have b9' : GAcc L9 nv6 sv4 (scells (sl2 ++ [tok.text])) := by simpa [scells] using b9.1
          refine callBy cb12 (c_bad (fun e6 => ?_) (fun e6 => ?_)) <;> simp (maxSteps := 4000000) only [go_sem, reduceIte, reduceCtorEq, Nat.reduceAdd, Nat.reduceSub, Nat.reduceMul, Nat.reduceLeDiff, Nat.reduceLT, Nat.reduceEqDiff, Nat.reduceBEq, a9.ints.loc, a9.ints.one, b9'.strs.loc]
          · refine callBy cb32 (c_is p9 fun v hv => ?_)
            cases v <;> simp (maxSteps := 4000000) only [go_sem, reduceIte, reduceCtorEq, Nat.reduceAdd, Nat.reduceSub, Nat.reduceMul, Nat.reduceLeDiff, Nat.reduceLT, Nat.reduceEqDiff, Nat.reduceBEq, a9.ints.loc, a9.ints.one, b9'.strs.loc, p9.wrap1]
            · exact h1 _ (l2 ++ [r6]) _ _ _ _ _ _ _ _ _ _ a9.ints (by simp; omega) p9 (k7.acc f2' k9) (by omega) (by omega) (by omega) (fun e => q2 (by omega))
            · have hv := hv rfl
              have p10 := p9.step (at1 := at5 + 1) (code1 := code5) (by omega) hv id
              refine ⟨⟨⟨0, at5 + 1, _, _, deep5, df5, lp5, tp5, code5, pos5, _, _, l2 ++ [r6], false⟩, _, (sl2 ++ [tok.text])⟩, rfl, rfl, ⟨p10, a9, (Fr.acc k7 f2' k9), (k7.acc f2' k9), b9', ⟨ne_symm b9.2, fs4⟩, ?_, ?_, ?_, ?_, ?_⟩, ?_⟩
              all_goals dsimp only
              · omega
              · omega
              · intro e; exact q2 (by omega)
              · simp; omega
              · first | omega | (simp; omega)
              · omega
          · exact h1 _ (l2 ++ [r6]) _ _ _ _ _ _ _ _ _ _ a9.ints (by simp; omega) p9 (k7.acc f2' k9) (by omega) (by omega) (by omega) (fun e => q2 (by omega))
    · exact h1 lv2 l2 _ _ _ _ _ _ _ _ _ _ a2.ints (by omega) p2 k2 m2 g4 c2 q2
  · exact h1 lv2 l2 _ _ _ _ _ _ _ _ _ _ a2.ints (by omega) p2 k2 m2 g4 c2 q2

end Go.Proofs.Ab5
end
