/-
  The reference parser: load.
-/
import Derived.Test.YtdgfmdjlhkjbaaaGa
set_option linter.all false
section
set_option maxRecDepth 10000
set_option maxHeartbeats 4000000
set_option linter.unusedSimpArgs false
set_option linter.unusedVariables false
namespace Go.Proofs.Ab5
open Go.Ab Go.Proofs
variable {ts : List Tok}
theorem c_load {p : Nat} {b : Nat → Option (List AVal)} {L : Nat → Bool} {ρt : Option Nat} {at0 : Int} {nv0 : AVal} {deep0 : Int} {df0 lp0 tp0 : Bool} {code0 pos0 : Int} {ns0 : List Nd} {R : List Int} {S : AVal → AHeap → Prop} {po : Int} (p0 : PI ts at0 nv0 ns0 code0 L R) (room : (ns0.length : Int) ≤ 2 * at0 + 2) (hat : at0 + 1 < ts.length) (h1 : ∀ (r : Int) (at1 : Int) (nv1 : AVal) (ns1 : List Nd) (deep1 : Int) (df1 lp1 tp1 : Bool) (code1 pos1 : Int) (L1 : Nat → Bool), PI ts at1 nv1 ns1 code1 L1 (r :: R) → Keep L nv0 L1 nv1 → at0 ≤ at1 → at1 < ts.length → (ns1.length : Int) + 2 * at0 ≤ ns0.length + 2 * at1 → (code1 = 0 → code0 = 0 ∧ at0 < at1) → S (.int .i64 r) ⟨upd b p (some (pcells ρt ts at1 nv1 deep1 df1 lp1 tp1 code1 pos1)), L1⟩) :
    ACalls Try.prog 53 [.ptr p 0, .int .i64 po] ⟨upd b p (some (pcells ρt ts at0 nv0 deep0 df0 lp0 tp0 code0 pos0)), L⟩ S := by
  have g0 := p0.pos
  have g1 := p0.lt
  have g2 := p0.tok.most
  have ih := allE (ts := ts) (64 * ts.length + 100)
  refine acalls_of Try.func53 rfl (rd_ok hMix (κ := fun _ => false) δ0 _ rfl ?_)
  simp (maxSteps := 4000000) only [go_sem, reduceIte, reduceCtorEq, Nat.reduceAdd, Nat.reduceSub, Nat.reduceMul, Nat.reduceLeDiff, Nat.reduceLT, Nat.reduceEqDiff, Nat.reduceBEq, Try.ntmps53, Try.f53, p0.wrap1]
  have p1 := p0.step (at1 := at0 + 1) (code1 := code0) (by omega) hat id
  refine callBy cb35 (c_want p1 fun v at3 code3 pos3 z1 z2 z3 z4 z5 => ?_)
  simp (maxSteps := 4000000) only [go_sem, reduceIte, reduceCtorEq, Nat.reduceAdd, Nat.reduceSub, Nat.reduceMul, Nat.reduceLeDiff, Nat.reduceLT, Nat.reduceEqDiff, Nat.reduceBEq]
  have p3 := p1.step (code1 := code3) z4 z5 (fun e => (z3 e).1)
  have q3 : code3 = 0 → code0 = 0 := fun e => (z3 e).1
  clear z1 z2 z3
  refine callBy cb42 (c_kind p3 (by decide) fun tok4 v at4 code4 pos4 y0 y1 y2 y3 y4 y5 => ?_)
  simp (maxSteps := 4000000) only [go_sem, reduceIte, reduceCtorEq, Nat.reduceAdd, Nat.reduceSub, Nat.reduceMul, Nat.reduceLeDiff, Nat.reduceLT, Nat.reduceEqDiff, Nat.reduceBEq]
  have p4 := p3.step (code1 := code4) y4 y5 (fun e => (y3 e).1)
  have q4 : code4 = 0 → code0 = 0 := fun e => q3 (y3 e).1
  clear y1 y2 y3
  refine AWp.loop_st [true, true, false, false, false, true, false, true, false, false, false, false, false, false, false, false, false, false, false, false, false, false, false, false, false, false, false, false, false, false, false, false, false, false, false, false, false, false, false, false, false, false, false, false, false, false, false, false, false, false, false, false, false, false, false, false, false, false, false, false, false, false, false, false, false, false, false, false, false, false, false, false, false, false, false, false, false, false, false, false, false, false, false, false, false, false, false, false, false, false, false, false, false, false, false, false, false, false, false, false, false, false, false, false, false, false, false, false, false, false, false, false, false, false, false, false, false] [5] (fun x : LS => ⟨[.ptr p 0, .int .i64 po, .any, .any, .any, .loc 5 0, .any, x.lv, .any, .any, .any, .any, .any, .any, .any, .any, .any, .any, .any, .any, .any, .any, .any, .any, .any, .any, .any, .any, .any, .any, .any, .any, .any, .any, .any, .any, .any, .any, .any, .any, .any, .any, .any, .any, .any, .any, .any, .any, .any, .any, .any, .any, .any, .any, .any, .any, .any, .any, .any, .any, .any, .any, .any, .any, .any, .any, .any, .any, .any, .any, .any, .any, .any, .any, .any, .any, .any, .any, .any, .any, .any, .any, .any, .any, .any, .any, .any, .any, .any, .any, .any, .any, .any, .any, .any, .any, .any, .any, .any, .any, .any, .any, .any, .any, .any, .any, .any, .any, .any, .any, .any, .any, .any, .any, .any, .any, .any], [(5, [.int .i64 tok4.kind, .str tok4.text, .int .i64 tok4.pos])]⟩) (fun x => ⟨upd b p (some (pcells ρt ts x.at' x.nv x.deep x.df x.lp x.tp x.code x.pos)), x.L⟩)
    (fun x => PI ts x.at' x.nv x.ns x.code x.L (x.l ++ R) ∧ Acc x.L x.nv x.lv x.l ∧ Fr L nv0 x.lv ∧ Keep L nv0 x.L x.nv ∧ at0 + 1 ≤ x.at' ∧ (x.ns.length : Int) + 2 * at0 + 1 ≤ ns0.length + 2 * x.at' ∧ (x.code = 0 → code0 = 0) ∧ (x.l.length : Int) ≤ x.at')
    (fun x => (ts.length - x.at').toNat) ⟨0, at4, nv0, ns0, deep0, df0, lp0, tp0, code4, pos4, L, .nilSlice, [], false⟩ ?_ ?_ rfl ⟨p4, Acc.nil _ _, Fr.nil _ _, Keep.refl _ _, by dsimp only; omega, by dsimp only; omega, q4, by dsimp only [List.length_nil]; omega⟩ ?_
  · simp (maxSteps := 4000000) only [go_sem, reduceIte, reduceCtorEq, Nat.reduceAdd, Nat.reduceSub, Nat.reduceMul, Nat.reduceLeDiff, Nat.reduceLT, Nat.reduceEqDiff, Nat.reduceBEq]
  · simp (maxSteps := 4000000) only [go_sem, reduceIte, reduceCtorEq, Nat.reduceAdd, Nat.reduceSub, Nat.reduceMul, Nat.reduceLeDiff, Nat.reduceLT, Nat.reduceEqDiff, Nat.reduceBEq]
  rintro ⟨a, at2, nv2, ns2, deep2, df2, lp2, tp2, code2, pos2, L2, lv2, l2, f2⟩ ⟨p2, a2, f2', k2, m2, c2, q2, l2'⟩
  dsimp only at p2 a2 f2' k2 m2 c2 q2 l2' ⊢
  have g3 := p2.pos
  have g4 := p2.lt
  refine rd_ok hMix (κ := fun _ => false) δ0 _ rfl ?_
  simp (maxSteps := 4000000) only [go_sem, reduceIte, reduceCtorEq, Nat.reduceAdd, Nat.reduceSub, Nat.reduceMul, Nat.reduceLeDiff, Nat.reduceLT, Nat.reduceEqDiff, Nat.reduceBEq]
  refine callBy cb12 (c_bad (fun e2 => ?_) (fun e2 => ?_)) <;> simp (maxSteps := 4000000) only [go_sem, reduceIte, reduceCtorEq, Nat.reduceAdd, Nat.reduceSub, Nat.reduceMul, Nat.reduceLeDiff, Nat.reduceLT, Nat.reduceEqDiff, Nat.reduceBEq]
  · refine callBy cb32 (c_is p2 fun v hv => ?_)
    cases v <;> simp (maxSteps := 4000000) only [go_sem, reduceIte, reduceCtorEq, Nat.reduceAdd, Nat.reduceSub, Nat.reduceMul, Nat.reduceLeDiff, Nat.reduceLT, Nat.reduceEqDiff, Nat.reduceBEq, p2.wrap1]
    ·
      refine callBy cb12 (c_bad (fun e8 => ?_) (fun e8 => ?_)) <;> simp (maxSteps := 4000000) only [go_sem, reduceIte, reduceCtorEq, Nat.reduceAdd, Nat.reduceSub, Nat.reduceMul, Nat.reduceLeDiff, Nat.reduceLT, Nat.reduceEqDiff, Nat.reduceBEq, a2.ints.len, a2.ints.fits]
      · refine ⟨fun hz => ?_, fun hz => ?_⟩
        · refine callBy cb37 (c_wrong p2 fun code7 pos7 hc => ?_)
          simp (maxSteps := 4000000) only [go_sem, reduceIte, reduceCtorEq, Nat.reduceAdd, Nat.reduceSub, Nat.reduceMul, Nat.reduceLeDiff, Nat.reduceLT, Nat.reduceEqDiff, Nat.reduceBEq]
          exact h1 _ _ _ _ _ _ _ _ _ _ _ (p2.fail (Int.le_refl _) (by omega) hc _) k2 (by omega) (by omega) (by omega) (fun e => absurd e hc)
        ·
          refine callBy cb35 (c_want p2 fun v at9 code9 pos9 z1 z2 z3 z4 z5 => ?_)
          simp (maxSteps := 4000000) only [go_sem, reduceIte, reduceCtorEq, Nat.reduceAdd, Nat.reduceSub, Nat.reduceMul, Nat.reduceLeDiff, Nat.reduceLT, Nat.reduceEqDiff, Nat.reduceBEq, a2.ints.loc, a2.ints.one]
          have p9 := p2.step (code1 := code9) z4 z5 (fun e => (z3 e).1)
          refine callBy cb16 (c_put (ks := l2) p9 a2.ints (by omega) fun r20 nv20 ns20 L20 p20 k20 c20 => ?_)
          simp (maxSteps := 4000000) only [go_sem, reduceIte, reduceCtorEq, Nat.reduceAdd, Nat.reduceSub, Nat.reduceMul, Nat.reduceLeDiff, Nat.reduceLT, Nat.reduceEqDiff, Nat.reduceBEq]
          exact h1 _ _ _ _ _ _ _ _ _ _ _ p20 (k2.trans k20) (by omega) (by omega) (by omega) (fun e => ⟨q2 (z3 e).1, by omega⟩)
      ·
        refine callBy cb35 (c_want p2 fun v at9 code9 pos9 z1 z2 z3 z4 z5 => ?_)
        simp (maxSteps := 4000000) only [go_sem, reduceIte, reduceCtorEq, Nat.reduceAdd, Nat.reduceSub, Nat.reduceMul, Nat.reduceLeDiff, Nat.reduceLT, Nat.reduceEqDiff, Nat.reduceBEq, a2.ints.loc, a2.ints.one]
        have p9 := p2.step (code1 := code9) z4 z5 (fun e => (z3 e).1)
        refine callBy cb16 (c_put (ks := l2) p9 a2.ints (by omega) fun r20 nv20 ns20 L20 p20 k20 c20 => ?_)
        simp (maxSteps := 4000000) only [go_sem, reduceIte, reduceCtorEq, Nat.reduceAdd, Nat.reduceSub, Nat.reduceMul, Nat.reduceLeDiff, Nat.reduceLT, Nat.reduceEqDiff, Nat.reduceBEq]
        exact h1 _ _ _ _ _ _ _ _ _ _ _ p20 (k2.trans k20) (by omega) (by omega) (by omega) (fun e => ⟨q2 (z3 e).1, by omega⟩)
    · have hv := hv rfl
      have p3 := p2.step (at1 := at2 + 1) (code1 := code2) (by omega) hv id
      refine callBy cb32 (c_is p3 fun v hv' => ?_)
      cases v <;> simp (maxSteps := 4000000) only [go_sem, reduceIte, reduceCtorEq, Nat.reduceAdd, Nat.reduceSub, Nat.reduceMul, Nat.reduceLeDiff, Nat.reduceLT, Nat.reduceEqDiff, Nat.reduceBEq]
      · refine callBy cb13 (c_now p3 fun tok5 u1 u2 u3 => ?_)
        simp (maxSteps := 4000000) only [go_sem, reduceIte, reduceCtorEq, Nat.reduceAdd, Nat.reduceSub, Nat.reduceMul, Nat.reduceLeDiff, Nat.reduceLT, Nat.reduceEqDiff, Nat.reduceBEq, p3.wrap1]
        refine ⟨fun hk => ?_, fun hk => ?_⟩
        ·
          refine callBy cb42 (c_kind p3 (by decide) fun tok6 v at6 code6 pos6 y0 y1 y2 y3 y4 y5 => ?_)
          simp (maxSteps := 4000000) only [go_sem, reduceIte, reduceCtorEq, Nat.reduceAdd, Nat.reduceSub, Nat.reduceMul, Nat.reduceLeDiff, Nat.reduceLT, Nat.reduceEqDiff, Nat.reduceBEq]
          have p6 := p3.step (code1 := code6) y4 y5 (fun e => (y3 e).1)
          clear y1 y2
          refine callBy cb12 (c_bad (fun e6 => ?_) (fun e6 => ?_)) <;> simp (maxSteps := 4000000) only [go_sem, reduceIte, reduceCtorEq, Nat.reduceAdd, Nat.reduceSub, Nat.reduceMul, Nat.reduceLeDiff, Nat.reduceLT, Nat.reduceEqDiff, Nat.reduceBEq]
          · have w6 := y3 e6
            refine callBy cb58 (c_name (by omega) fun v L8 g8 => ?_)
            have p8 := p6.grow g8
            cases v <;> simp (maxSteps := 4000000) only [go_sem, reduceIte, reduceCtorEq, Nat.reduceAdd, Nat.reduceSub, Nat.reduceMul, Nat.reduceLeDiff, Nat.reduceLT, Nat.reduceEqDiff, Nat.reduceBEq]
            · refine callBy cb50 (c_fail (by decide) fun code7 pos7 hc => ?_)
              simp (maxSteps := 4000000) only [go_sem, reduceIte, reduceCtorEq, Nat.reduceAdd, Nat.reduceSub, Nat.reduceMul, Nat.reduceLeDiff, Nat.reduceLT, Nat.reduceEqDiff, Nat.reduceBEq]
              exact h1 _ _ _ _ _ _ _ _ _ _ _ (p8.fail (Int.le_refl _) (by omega) hc _) (k2.trans g8.keep) (by omega) (by omega) (by omega) (fun e => absurd e hc)
            ·
              refine callBy cb16 (c_put (ks := []) p8 (.inl ⟨rfl, rfl⟩) (by omega) fun r10 nv10 ns10 L10 p10 k10 c10 => ?_)
              simp (maxSteps := 4000000) only [go_sem, reduceIte, reduceCtorEq, Nat.reduceAdd, Nat.reduceSub, Nat.reduceMul, Nat.reduceLeDiff, Nat.reduceLT, Nat.reduceEqDiff, Nat.reduceBEq]
              intro n11 hn11 hL11
              refine callBy cb16 (c_put (ks := [r10]) (p10.grow (Grow.upd n11)) (.inr ⟨some n11, rfl⟩) (by omega) fun r12 nv12 ns12 L12 p12 k12 c12 => ?_)
              simp (maxSteps := 4000000) only [go_sem, reduceIte, reduceCtorEq, Nat.reduceAdd, Nat.reduceSub, Nat.reduceMul, Nat.reduceLeDiff, Nat.reduceLT, Nat.reduceEqDiff, Nat.reduceBEq]
              intro n13 hn13 hL13 n14 hn14 hL14
              have p14 := p12.grow (Grow.upd n13)
              have kk := g8.keep.trans (k10.trans ((Grow.upd n11).keep.trans (k12.trans (Grow.upd n13).keep)))
              have k14 := k2.trans kk
              have a14 := a2.keep kk
              refine append_acc (ks := l2) a14 p14.nodes.own hL14 [r12] (by simp; omega) rfl (by decide) fun v15 L15 a15 k15 => ?_
              simp (maxSteps := 4000000) only [go_sem, reduceIte, reduceCtorEq, Nat.reduceAdd, Nat.reduceSub, Nat.reduceMul, Nat.reduceLeDiff, Nat.reduceLT, Nat.reduceEqDiff, Nat.reduceBEq, a15.ints.loc]
              refine ⟨⟨0, at6, nv12, ns12, deep2, df2, lp2, tp2, code6, pos6, L15, v15, l2 ++ [r12], false⟩, rfl, rfl, ⟨(p14.acc a14.ne k15).roots (R' := (l2 ++ [r12]) ++ R) (by rw [List.append_assoc]; exact List.perm_middle.symm), a15, Fr.acc k14 f2' k15, k14.acc f2' k15, ?_, ?_, ?_, ?_⟩, ?_⟩
              all_goals dsimp only
              · omega
              · omega
              · intro e; exact q2 e2
              · simp; omega
              · omega
          · exact h1 _ _ _ _ _ _ _ _ _ _ _ (p6.bad e6 _) k2 (by omega) (by omega) (by omega) (fun e => absurd e e6)
        · have p4 := p3.step (at1 := at2 + 1 + 1) (code1 := code2) (by omega) (u2 (by rw [hk]; decide)) id
          refine callBy cb35 (c_want p4 fun v at5 code5 pos5 z1 z2 z3 z4 z5 => ?_)
          simp (maxSteps := 4000000) only [go_sem, reduceIte, reduceCtorEq, Nat.reduceAdd, Nat.reduceSub, Nat.reduceMul, Nat.reduceLeDiff, Nat.reduceLT, Nat.reduceEqDiff, Nat.reduceBEq]
          have p5 := p4.step (code1 := code5) z4 z5 (fun e => (z3 e).1)
          clear z1 z2 z3
          refine callBy cb42 (c_kind p5 (by decide) fun tok6 v at6 code6 pos6 y0 y1 y2 y3 y4 y5 => ?_)
          simp (maxSteps := 4000000) only [go_sem, reduceIte, reduceCtorEq, Nat.reduceAdd, Nat.reduceSub, Nat.reduceMul, Nat.reduceLeDiff, Nat.reduceLT, Nat.reduceEqDiff, Nat.reduceBEq]
          have p6 := p5.step (code1 := code6) y4 y5 (fun e => (y3 e).1)
          clear y1 y2
          refine callBy cb12 (c_bad (fun e6 => ?_) (fun e6 => ?_)) <;> simp (maxSteps := 4000000) only [go_sem, reduceIte, reduceCtorEq, Nat.reduceAdd, Nat.reduceSub, Nat.reduceMul, Nat.reduceLeDiff, Nat.reduceLT, Nat.reduceEqDiff, Nat.reduceBEq]
          · have w6 := y3 e6
            refine callBy cb16 (c_put (ks := []) p6 (.inl ⟨rfl, rfl⟩) (by omega) fun r10 nv10 ns10 L10 p10 k10 c10 => ?_)
            simp (maxSteps := 4000000) only [go_sem, reduceIte, reduceCtorEq, Nat.reduceAdd, Nat.reduceSub, Nat.reduceMul, Nat.reduceLeDiff, Nat.reduceLT, Nat.reduceEqDiff, Nat.reduceBEq]
            intro n11 hn11 hL11
            refine callBy cb16 (c_put (ks := [r10]) (p10.grow (Grow.upd n11)) (.inr ⟨some n11, rfl⟩) (by omega) fun r12 nv12 ns12 L12 p12 k12 c12 => ?_)
            simp (maxSteps := 4000000) only [go_sem, reduceIte, reduceCtorEq, Nat.reduceAdd, Nat.reduceSub, Nat.reduceMul, Nat.reduceLeDiff, Nat.reduceLT, Nat.reduceEqDiff, Nat.reduceBEq]
            intro n13 hn13 hL13 n14 hn14 hL14
            have p14 := p12.grow (Grow.upd n13)
            have kk := (k10.trans ((Grow.upd n11).keep.trans (k12.trans (Grow.upd n13).keep)))
            have k14 := k2.trans kk
            have a14 := a2.keep kk
            refine append_acc (ks := l2) a14 p14.nodes.own hL14 [r12] (by simp; omega) rfl (by decide) fun v15 L15 a15 k15 => ?_
            simp (maxSteps := 4000000) only [go_sem, reduceIte, reduceCtorEq, Nat.reduceAdd, Nat.reduceSub, Nat.reduceMul, Nat.reduceLeDiff, Nat.reduceLT, Nat.reduceEqDiff, Nat.reduceBEq, a15.ints.loc]
            refine ⟨⟨0, at6, nv12, ns12, deep2, df2, lp2, tp2, code6, pos6, L15, v15, l2 ++ [r12], false⟩, rfl, rfl, ⟨(p14.acc a14.ne k15).roots (R' := (l2 ++ [r12]) ++ R) (by rw [List.append_assoc]; exact List.perm_middle.symm), a15, Fr.acc k14 f2' k15, k14.acc f2' k15, ?_, ?_, ?_, ?_⟩, ?_⟩
            all_goals dsimp only
            · omega
            · omega
            · intro e; exact q2 e2
            · simp; omega
            · omega
          · exact h1 _ _ _ _ _ _ _ _ _ _ _ (p6.bad e6 _) k2 (by omega) (by omega) (by omega) (fun e => absurd e e6)
      ·
        refine callBy cb12 (c_bad (fun e8 => ?_) (fun e8 => ?_)) <;> simp (maxSteps := 4000000) only [go_sem, reduceIte, reduceCtorEq, Nat.reduceAdd, Nat.reduceSub, Nat.reduceMul, Nat.reduceLeDiff, Nat.reduceLT, Nat.reduceEqDiff, Nat.reduceBEq, a2.ints.len, a2.ints.fits]
        · refine ⟨fun hz => ?_, fun hz => ?_⟩
          · refine callBy cb37 (c_wrong p3 fun code7 pos7 hc => ?_)
            simp (maxSteps := 4000000) only [go_sem, reduceIte, reduceCtorEq, Nat.reduceAdd, Nat.reduceSub, Nat.reduceMul, Nat.reduceLeDiff, Nat.reduceLT, Nat.reduceEqDiff, Nat.reduceBEq]
            exact h1 _ _ _ _ _ _ _ _ _ _ _ (p3.fail (Int.le_refl _) (by omega) hc _) k2 (by omega) (by omega) (by omega) (fun e => absurd e hc)
          ·
            refine callBy cb35 (c_want p3 fun v at9 code9 pos9 z1 z2 z3 z4 z5 => ?_)
            simp (maxSteps := 4000000) only [go_sem, reduceIte, reduceCtorEq, Nat.reduceAdd, Nat.reduceSub, Nat.reduceMul, Nat.reduceLeDiff, Nat.reduceLT, Nat.reduceEqDiff, Nat.reduceBEq, a2.ints.loc, a2.ints.one]
            have p9 := p3.step (code1 := code9) z4 z5 (fun e => (z3 e).1)
            refine callBy cb16 (c_put (ks := l2) p9 a2.ints (by omega) fun r20 nv20 ns20 L20 p20 k20 c20 => ?_)
            simp (maxSteps := 4000000) only [go_sem, reduceIte, reduceCtorEq, Nat.reduceAdd, Nat.reduceSub, Nat.reduceMul, Nat.reduceLeDiff, Nat.reduceLT, Nat.reduceEqDiff, Nat.reduceBEq]
            exact h1 _ _ _ _ _ _ _ _ _ _ _ p20 (k2.trans k20) (by omega) (by omega) (by omega) (fun e => ⟨q2 (z3 e).1, by omega⟩)
        ·
          refine callBy cb35 (c_want p3 fun v at9 code9 pos9 z1 z2 z3 z4 z5 => ?_)
          simp (maxSteps := 4000000) only [go_sem, reduceIte, reduceCtorEq, Nat.reduceAdd, Nat.reduceSub, Nat.reduceMul, Nat.reduceLeDiff, Nat.reduceLT, Nat.reduceEqDiff, Nat.reduceBEq, a2.ints.loc, a2.ints.one]
          have p9 := p3.step (code1 := code9) z4 z5 (fun e => (z3 e).1)
          refine callBy cb16 (c_put (ks := l2) p9 a2.ints (by omega) fun r20 nv20 ns20 L20 p20 k20 c20 => ?_)
          simp (maxSteps := 4000000) only [go_sem, reduceIte, reduceCtorEq, Nat.reduceAdd, Nat.reduceSub, Nat.reduceMul, Nat.reduceLeDiff, Nat.reduceLT, Nat.reduceEqDiff, Nat.reduceBEq]
          exact h1 _ _ _ _ _ _ _ _ _ _ _ p20 (k2.trans k20) (by omega) (by omega) (by omega) (fun e => ⟨q2 (z3 e).1, by omega⟩)
  ·
    refine callBy cb12 (c_bad (fun e8 => ?_) (fun e8 => ?_)) <;> simp (maxSteps := 4000000) only [go_sem, reduceIte, reduceCtorEq, Nat.reduceAdd, Nat.reduceSub, Nat.reduceMul, Nat.reduceLeDiff, Nat.reduceLT, Nat.reduceEqDiff, Nat.reduceBEq, a2.ints.len, a2.ints.fits]
    · refine ⟨fun hz => ?_, fun hz => ?_⟩
      · refine callBy cb37 (c_wrong p2 fun code7 pos7 hc => ?_)
        simp (maxSteps := 4000000) only [go_sem, reduceIte, reduceCtorEq, Nat.reduceAdd, Nat.reduceSub, Nat.reduceMul, Nat.reduceLeDiff, Nat.reduceLT, Nat.reduceEqDiff, Nat.reduceBEq]
        exact h1 _ _ _ _ _ _ _ _ _ _ _ (p2.fail (Int.le_refl _) (by omega) hc _) k2 (by omega) (by omega) (by omega) (fun e => absurd e hc)
      ·
        refine callBy cb35 (c_want p2 fun v at9 code9 pos9 z1 z2 z3 z4 z5 => ?_)
        simp (maxSteps := 4000000) only [go_sem, reduceIte, reduceCtorEq, Nat.reduceAdd, Nat.reduceSub, Nat.reduceMul, Nat.reduceLeDiff, Nat.reduceLT, Nat.reduceEqDiff, Nat.reduceBEq, a2.ints.loc, a2.ints.one]
        have p9 := p2.step (code1 := code9) z4 z5 (fun e => (z3 e).1)
        refine callBy cb16 (c_put (ks := l2) p9 a2.ints (by omega) fun r20 nv20 ns20 L20 p20 k20 c20 => ?_)
        simp (maxSteps := 4000000) only [go_sem, reduceIte, reduceCtorEq, Nat.reduceAdd, Nat.reduceSub, Nat.reduceMul, Nat.reduceLeDiff, Nat.reduceLT, Nat.reduceEqDiff, Nat.reduceBEq]
        exact h1 _ _ _ _ _ _ _ _ _ _ _ p20 (k2.trans k20) (by omega) (by omega) (by omega) (fun e => ⟨q2 (z3 e).1, by omega⟩)
    ·
      refine callBy cb35 (c_want p2 fun v at9 code9 pos9 z1 z2 z3 z4 z5 => ?_)
      simp (maxSteps := 4000000) only [go_sem, reduceIte, reduceCtorEq, Nat.reduceAdd, Nat.reduceSub, Nat.reduceMul, Nat.reduceLeDiff, Nat.reduceLT, Nat.reduceEqDiff, Nat.reduceBEq, a2.ints.loc, a2.ints.one]
      have p9 := p2.step (code1 := code9) z4 z5 (fun e => (z3 e).1)
      refine callBy cb16 (c_put (ks := l2) p9 a2.ints (by omega) fun r20 nv20 ns20 L20 p20 k20 c20 => ?_)
      simp (maxSteps := 4000000) only [go_sem, reduceIte, reduceCtorEq, Nat.reduceAdd, Nat.reduceSub, Nat.reduceMul, Nat.reduceLeDiff, Nat.reduceLT, Nat.reduceEqDiff, Nat.reduceBEq]
      exact h1 _ _ _ _ _ _ _ _ _ _ _ p20 (k2.trans k20) (by omega) (by omega) (by omega) (fun e => ⟨q2 (z3 e).1, by omega⟩)

end Go.Proofs.Ab5
end
